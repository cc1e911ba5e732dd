/- Texts of this claim, one behind the other: lemmas for the statement. -/
import Derived.Test.YtjhcfpdgldpicaaT0
import Derived.Test.YtjhcfpdgldpicaaA42
import Derived.Test.YtjhcfpdgldpicaaM8
import Derived.Test.YtjhcfpdgldpicaaM12
import Derived.Test.YtjhcfpdgldpicaaM10
set_option linter.unusedSimpArgs false
set_option linter.unusedVariables false
namespace Go.Proofs.Ytjhcfpdgldpicaa
open Go Go.RowKit Go.Proofs
theorem y80_sl40 : SlIs Try.prog 40 3 1 8 (.int .i64 0) := ⟨by kernel_rfl, by kernel_rfl, by kernel_rfl⟩
theorem y80_ty3 : TyIs Try.prog 3 false 1 := ⟨by kernel_rfl, by kernel_rfl⟩
section
variable {α : Type} [Inhabited α]
def rvK (l : List α) (k : Nat) : List α := (List.range l.length).map fun q => if q < k ∨ l.length - k ≤ q then l.getD (l.length - 1 - q) default else l.getD q default
theorem rvK_len (l : List α) (k : Nat) : (rvK l k).length = l.length := by unfold rvK; simp
theorem rvK_at (l : List α) (k : Nat) {q : Nat} (hq : q < l.length) : (rvK l k).getD q default = if q < k ∨ l.length - k ≤ q then l.getD (l.length - 1 - q) default else l.getD q default := by
 unfold rvK
 rw [List.getD_eq_getElem?_getD, List.getElem?_map, List.getElem?_range hq]; rfl
theorem rvK_zero (l : List α) : rvK l 0 = l := by
 apply List.ext_getElem (rvK_len l 0)
 intro q h1 h2
 have := rvK_at l 0 h2
 rw [List.getD_eq_getElem?_getD, List.getElem?_eq_getElem h1, if_neg (by omega), List.getD_eq_getElem?_getD, List.getElem?_eq_getElem h2] at this
 exact this
theorem rvK_step (l : List α) {k : Nat} (h : k < l.length - 1 - k) : ((rvK l k).set k ((rvK l k).getD (l.length - 1 - k) default)).set (l.length - 1 - k) ((rvK l k).getD k default) = rvK l (k + 1) := by
 have hl := rvK_len l k
 have ha := rvK_at l k (by omega : l.length - 1 - k < l.length)
 have hb := rvK_at l k (by omega : k < l.length)
 generalize (rvK l k).getD (l.length - 1 - k) default = a at ha ⊢
 generalize (rvK l k).getD k default = b at hb ⊢
 apply List.ext_getElem (by simp [rvK_len])
 intro q h1 h2
 rw [rvK_len] at h2
 have e1 := rvK_at l (k + 1) h2
 rw [List.getD_eq_getElem?_getD, List.getElem?_eq_getElem (by rw [rvK_len]; exact h2)] at e1
 rw [show (rvK l (k + 1))[q] = _ from e1, List.getElem_set, List.getElem_set]
 have e2 := rvK_at l k h2
 rw [List.getD_eq_getElem?_getD, List.getElem?_eq_getElem (by rw [rvK_len]; exact h2)] at e2
 rw [show (rvK l k)[q] = _ from e2]
 by_cases c1 : l.length - 1 - k = q
 ·subst c1
  rw [if_pos rfl, hb, if_neg (by omega), if_pos (by omega)]
  congr 1; omega
 ·rw [if_neg c1]
  by_cases c2 : k = q
  ·subst c2
   rw [if_pos rfl, ha, if_neg (by omega), if_pos (by omega)]
  ·rw [if_neg c2]
   by_cases c3 : q < k ∨ l.length - k ≤ q
   ·rw [if_pos c3, if_pos (by omega)]
   ·rw [if_neg c3, if_neg (by omega)]
theorem rvK_rev (l : List α) {k : Nat} (h : l.length - 1 - k ≤ k) : rvK l k = l.reverse := by
 apply List.ext_getElem (by simp [rvK_len])
 intro q h1 h2
 rw [rvK_len] at h1
 have e1 := rvK_at l k h1
 rw [List.getD_eq_getElem?_getD, List.getElem?_eq_getElem (by rw [rvK_len]; exact h1)] at e1
 rw [show (rvK l k)[q] = _ from e1, List.getElem_reverse]
 by_cases c : q < k ∨ l.length - k ≤ q
 ·rw [if_pos c, List.getD_eq_getElem?_getD, List.getElem?_eq_getElem (by omega)]; rfl
 ·rw [if_neg c, List.getD_eq_getElem?_getD, List.getElem?_eq_getElem (by omega)]
  have : q = l.length - 1 - q := by omega
  show l[q] = _
  congr 1
end
set_option maxRecDepth 100000 in
set_option maxHeartbeats 4000000 in
theorem revInts (xs : List Int) (hx : xs.length ≤ 1000000) : FnMu Try.prog [] 31 [.own 1] [.row 3 1 (xs.map iE)] (.tuple []) [.row 3 1 (xs.reverse.map iE)] := by
 refine fnMu_of (fn := Try.f31) [] 28 (by kernel_rfl) rfl (by kernel_rfl) (Nat.le_of_ble_eq_true rfl) ?_
 intro e_0 m_0 hA hm_0
 have s0_0 : evA e_0 (.tmp 0) = _ := hA 0 _ rfl
 have ml_0 : m_0.length = 2 := by rw [hm_0]; rfl
 have mo0_0 := m_in0 hm_0
 have mo1_0 := m_in1 hm_0
 clear hA hm_0
 refine aw_seq <| at_ <| ar (ro_move s0_0) rfl <| ar (ro_eq (ro_len_own up_h mo1_0 rfl y80_sl40.1) (by simp only [lnS] <;> rfl)) rfl ?_
 (refine ar (ro_sub' up_h ev_c ?_) rfl ?_; · (unfold In64; omega))
 refine ar (ro_assign ev_c) rfl <| ar (ro_assign (up_m rfl up_h)) rfl <| ae3 (up_m rfl (u4 rfl s0_0)) (up_m rfl up_h) up_h ?_; clear s0_0; intro e_1 s0_1 s2_1 s3_1
 refine then_n <| aw_block <| aw_loop (S := (Int × Int × List Int)) (fun s e mem => match s with | ⟨i, j, ys⟩ => (evA e (.tmp 2) = .v (.int .i64 i)) ∧ (evA e (.tmp 3) = .v (.int .i64 j)) ∧ (evA e (.tmp 0) = evA e_1 (.tmp 0)) ∧ (mem[1]? = some (.row 3 1 (ys.map iE))) ∧ (mem[0]? = m_0[0]?) ∧ (mem.length = 2) ∧ ((0 ≤ i ∧ i + j = xs.length - 1 ∧ i ≤ xs.length ∧ ys = rvK xs i.toNat))) (fun s => match s with | ⟨i, j, ys⟩ => (j - i + 1).toNat) ⟨_, _, xs⟩ ⟨s2_1, s3_1, rfl, mo1_0, rfl, ml_0, ?_⟩ ?_
 ·exact ⟨by omega, by omega, by omega, (rvK_zero xs).symm⟩
 ·rintro ⟨i, j, ys⟩ e_2 m_2 ⟨s2_2, s3_2, k0_2, mo1_2, mk0_2, ml_2, hinv⟩
  have s0_2 := k0_2.trans s0_1
  have mo0_2 := mk0_2.trans mo0_0
  (obtain ⟨p1, p2, p4, p3⟩ := hinv; have hyl : ys.length = xs.length := (by rw [p3, rvK_len]))
  refine aw_seq <| aw_seq <| at_ <| ar (ro_move s2_2) rfl <| ar (ro_move (up_m rfl s3_2)) rfl <| ar (ro_lss (up_m rfl up_h) up_h) rfl <| ae4 (up_m rfl (u2 rfl s0_2)) (up_m rfl (u2 rfl s2_2)) (up_m rfl (u2 rfl s3_2)) up_h ?_; clear s0_2 s2_2 s3_2; intro e_3 s0_3 s2_3 s3_3 s9_3
  refine then_n <| aw_case s9_3 (fun hq_4 => ?_) (fun hq_4 => ?_)
  ·replace hq_4 := bt hq_4
   refine aw_skip <| then_n <| aw_seq <| aw_block <| aw_drawK 14 0 ml_2 (by kernel_rfl) (by kernel_rfl) (by kernel_rfl) (by kernel_rfl) (fun m_5 hm_5 => ?_)
   have mo1_5 := m_room_o hm_5 mo1_2
   have mo0_5 := m_room_o hm_5 mo0_2
   have ml_5 : _ = 2 := m_room_l (K := 0) hm_5 ml_2
   clear hm_5 mo1_2 mo0_2 ml_2
   refine dh_ro (fun M_ hM_ => (ro_move s0_3)) trivial ?_
   refine dh_ro (fun M_ hM_ => (ro_move (up_m rfl s2_3))) trivial ?_
   refine dh_ro (fun M_ hM_ => (ro_move (u2 rfl s0_3))) trivial ?_
   refine dh_ro (fun M_ hM_ => (ro_move (up_m rfl (u2 rfl s3_3)))) trivial ?_
   refine dh_ro (fun M_ hM_ => (ro_move (u4 rfl s0_3))) trivial ?_
   refine dh_ro (fun M_ hM_ => (ro_move (up_m rfl (u4 rfl s3_3)))) trivial ?_
   refine dh_ld (1) (fun M_ hM_ => (ro_ix_own y80_sl40 (agr hM_ mo1_5 (by simp)) (up_m rfl up_h) up_h (by omega) (by simp only [lnS] <;> omega))) trivial trivial ?_
   refine dh_ld (1) (fun M_ hM_ => (ro_eq (ro_ld_el y80_ty3 rfl (agr hM_ mo1_5 (by simp)) up_h (nle rfl) (by first | (refine idx_map ?_; first | omega | (simp only [lnS]; omega)) | (refine idx_mapI ?_; first | omega | (simp only [lnS]; omega)) | (refine idx_mapN ?_; first | omega | (simp only [lnS]; omega)) | rfl)) (by simp only [pS, Value.cells, Nat.reduceAdd, set_iE] <;> rfl))) trivial trivial ?_
   refine dh_ro (fun M_ hM_ => (ro_move (u8 rfl s0_3))) trivial ?_
   refine dh_ro (fun M_ hM_ => (ro_move (up_m rfl (u8 rfl s2_3)))) trivial ?_
   refine dh_ld (1) (fun M_ hM_ => (ro_ix_own y80_sl40 (agr hM_ mo1_5 (by simp)) (up_m rfl up_h) up_h (by omega) (by simp only [lnS] <;> omega))) trivial trivial ?_
   refine dh_ld (1) (fun M_ hM_ => (ro_eq (ro_ld_el y80_ty3 rfl (agr hM_ mo1_5 (by simp)) up_h (nle rfl) (by first | (refine idx_map ?_; first | omega | (simp only [lnS]; omega)) | (refine idx_mapI ?_; first | omega | (simp only [lnS]; omega)) | (refine idx_mapN ?_; first | omega | (simp only [lnS]; omega)) | rfl)) (by simp only [pS, Value.cells, Nat.reduceAdd, set_iE] <;> rfl))) trivial trivial ?_
   refine dh_ld (1) (fun M_ hM_ => (ro_ix_own y80_sl40 (agr hM_ mo1_5 (by simp)) (up_m rfl (u2 rfl (u8 rfl up_h))) (u2 rfl (u8 rfl up_h)) (by omega) (by simp only [lnS] <;> omega))) trivial trivial ?_
   refine dh_set (1) (fun M_ hM_ => (se_store_el up_h (up_m rfl (u4 rfl up_h)) rfl rfl rfl (agr hM_ mo1_5 (by simp)) (Nat.add_zero _).symm (by first | (refine idx_map ?_; first | omega | (simp only [lnS]; omega)) | (refine idx_mapI ?_; first | omega | (simp only [lnS]; omega)) | (refine idx_mapN ?_; first | omega | (simp only [lnS]; omega)) | rfl) qsz3 rfl (nle rfl))) trivial trivial ⟨.inr (wt_one 13 6 (by kernel_rfl)), ⟨.inr (wt_one 13 7 (by kernel_rfl)), ⟨.inr ((wt_one 13 11 (by kernel_rfl)).trans (wt_one 11 10 (by kernel_rfl))), ⟨.inr (wt_one 13 11 (by kernel_rfl)), ⟨.inr (wt_one 13 12 (by kernel_rfl)), trivial⟩⟩⟩⟩⟩ (fun m_6 hm_6 => ?_)
   have mo1_6 := m_set hm_6 mo1_5
   simp only [pS, Value.cells, Nat.reduceAdd, set_iE] at mo1_6
   have mo0_6 := m_set_o hm_6 mo0_5 (by decide)
   have ml_6 := m_set_l hm_6 ml_5
   clear hm_6 mo1_5 mo0_5
   refine dh_nil rfl ?_
   refine ar (ro_ix_own y80_sl40 mo1_6 (up_n (u2 rfl (u8 rfl up_h))) (up_n (up_m rfl (u8 rfl up_h))) (by omega) (by simp only [lnS] <;> omega)) rfl ?_
   refine al_stm (st_store_el up_h (up_m rfl (up_n (up_m rfl up_h))) rfl rfl rfl mo1_6 (Nat.add_zero _).symm (by refine idx_mapI ?_; first | omega | (simp only [lnS]; omega)) qsz3 rfl (nle rfl)) trivial rfl (fun m_7 hm_7 => ?_)
   have mo1_7 := m_set hm_7 mo1_6
   simp only [pS, Value.cells, Nat.reduceAdd, set_iE] at mo1_7
   have mo0_7 := m_set_o hm_7 mo0_6 (by decide)
   have ml_7 := m_set_l hm_7 ml_6
   clear hm_7 mo1_6 mo0_6
   refine ae3 (up_n (up_m rfl (up_n (up_m rfl (u4 rfl (u8 rfl s0_3)))))) (up_n (up_m rfl (up_n (up_m rfl (u4 rfl (u8 rfl s2_3)))))) (up_n (up_m rfl (up_n (up_m rfl (u4 rfl (u8 rfl s3_3)))))) ?_; clear s0_3 s2_3 s3_3 s9_3; intro e_8 s0_8 s2_8 s3_8
   refine block_n <| then_n <| at_ <| ar (ro_move s2_8) rfl ?_
   (refine ar (ro_add' up_h ev_c ?_) rfl ?_; · (unfold In64; omega))
   refine ar (ro_move (u2 rfl s3_8)) rfl ?_
   (refine ar (ro_sub' up_h ev_c ?_) rfl ?_; · (unfold In64; omega))
   refine ar (ro_assign (u2 rfl up_h)) rfl <| ar (ro_assign (up_m rfl up_h)) rfl <| ae3 (u2 rfl (u4 rfl s0_8)) (up_m rfl up_h) up_h ?_; clear s0_8 s2_8 s3_8; intro e_9 s0_9 s2_9 s3_9
   refine then_n <| ⟨⟨_, _, _⟩, ⟨s2_9, s3_9, (s0_9.trans s0_1.symm), mo1_7, (mo0_7.trans mo0_0.symm), ml_7, ?_⟩, ?_⟩
   ·(refine ⟨by omega, by omega, by omega, ?_⟩; have hs := rvK_step xs (k := i.toNat) (by omega); rw [← p3] at hs; rw [show (i + 1).toNat = i.toNat + 1 by omega, ← hs, show xs.length - 1 - i.toNat = j.toNat by omega])
   ·((try dsimp only); omega)
  replace hq_4 := bf hq_4
  refine aw_exit <| then_x <| then_x <| block_hit <| muQ_eq (.inl rfl) [1] ml_2 mo0_2 (by decide) rfl (resM0 (by kernel_rfl)) (emb_ob mo1_2 ?_ .nil) ?_
  all_goals ((first | rfl | (rw [p3, rvK_rev xs (by omega)]; rfl)))
end Go.Proofs.Ytjhcfpdgldpicaa
namespace Go.Proofs.Ytjhcfpdgldpicaa
open Go Go.RowKit Go.Proofs
theorem y81_sl22 : SlIs Try.prog 22 66 4 32 (.agg #[.int .i64 0, .int .i64 0, .int .i64 0, .int .i64 0]) := ⟨by kernel_rfl, by kernel_rfl, by kernel_rfl⟩
theorem y81_sl23 : SlIs Try.prog 23 69 2 16 (.agg #[.int .i64 0, .int .i64 0]) := ⟨by kernel_rfl, by kernel_rfl, by kernel_rfl⟩
theorem y81_ty66 : TyIs Try.prog 66 true 4 := ⟨by kernel_rfl, by kernel_rfl⟩
theorem y81_ty69 : TyIs Try.prog 69 true 2 := ⟨by kernel_rfl, by kernel_rfl⟩
theorem set_jnF (js : List Jnt) (i : Nat) (a : Jnt) : (js.map jnE).set i [AV.v (.int .i64 a.acr), AV.v (.int .i64 a.up), AV.v (.int .i64 a.lo), AV.v (.int .i64 a.hi)] = (js.set i a).map jnE := by simp [List.map_set, jnE]
theorem set_beF (bs : List Bea) (i : Nat) (a : Bea) : (bs.map beE).set i [AV.v (.int .i64 a.len), AV.v (.int .i64 a.cant)] = (bs.set i a).map beE := by simp [List.map_set, beE]
set_option maxRecDepth 100000 in
set_option maxHeartbeats 4000000 in
theorem revJoints (xs : List Jnt) (hx : xs.length ≤ 1000000) : FnMu Try.prog [] 29 [.own 1] [.row 66 4 (xs.map jnE)] (.tuple []) [.row 66 4 (xs.reverse.map jnE)] := by
 refine fnMu_of (fn := Try.f29) [] 28 (by kernel_rfl) rfl (by kernel_rfl) (Nat.le_of_ble_eq_true rfl) ?_
 intro e_0 m_0 hA hm_0
 have s0_0 : evA e_0 (.tmp 0) = _ := hA 0 _ rfl
 have ml_0 : m_0.length = 2 := by rw [hm_0]; rfl
 have mo0_0 := m_in0 hm_0
 have mo1_0 := m_in1 hm_0
 clear hA hm_0
 refine aw_seq <| at_ <| ar (ro_move s0_0) rfl <| ar (ro_eq (ro_len_own up_h mo1_0 rfl y81_sl22.1) (by simp only [lnS] <;> rfl)) rfl ?_
 (refine ar (ro_sub' up_h ev_c ?_) rfl ?_; · (unfold In64; omega))
 refine ar (ro_assign ev_c) rfl <| ar (ro_assign (up_m rfl up_h)) rfl <| ae3 (up_m rfl (u4 rfl s0_0)) (up_m rfl up_h) up_h ?_; clear s0_0; intro e_1 s0_1 s2_1 s3_1
 refine then_n <| aw_block <| aw_loop (S := (Int × Int × List Jnt)) (fun s e mem => match s with | ⟨i, j, ys⟩ => (evA e (.tmp 2) = .v (.int .i64 i)) ∧ (evA e (.tmp 3) = .v (.int .i64 j)) ∧ (evA e (.tmp 0) = evA e_1 (.tmp 0)) ∧ (mem[1]? = some (.row 66 4 (ys.map jnE))) ∧ (mem[0]? = m_0[0]?) ∧ (mem.length = 2) ∧ ((0 ≤ i ∧ i + j = xs.length - 1 ∧ i ≤ xs.length ∧ ys = rvK xs i.toNat))) (fun s => match s with | ⟨i, j, ys⟩ => (j - i + 1).toNat) ⟨_, _, xs⟩ ⟨s2_1, s3_1, rfl, mo1_0, rfl, ml_0, ?_⟩ ?_
 ·exact ⟨by omega, by omega, by omega, (rvK_zero xs).symm⟩
 ·rintro ⟨i, j, ys⟩ e_2 m_2 ⟨s2_2, s3_2, k0_2, mo1_2, mk0_2, ml_2, hinv⟩
  have s0_2 := k0_2.trans s0_1
  have mo0_2 := mk0_2.trans mo0_0
  (obtain ⟨p1, p2, p4, p3⟩ := hinv; have hyl : ys.length = xs.length := (by rw [p3, rvK_len]))
  refine aw_seq <| aw_seq <| at_ <| ar (ro_move s2_2) rfl <| ar (ro_move (up_m rfl s3_2)) rfl <| ar (ro_lss (up_m rfl up_h) up_h) rfl <| ae4 (up_m rfl (u2 rfl s0_2)) (up_m rfl (u2 rfl s2_2)) (up_m rfl (u2 rfl s3_2)) up_h ?_; clear s0_2 s2_2 s3_2; intro e_3 s0_3 s2_3 s3_3 s9_3
  refine then_n <| aw_case s9_3 (fun hq_4 => ?_) (fun hq_4 => ?_)
  ·replace hq_4 := bt hq_4
   refine aw_skip <| then_n <| aw_seq <| aw_block <| aw_drawK 14 0 ml_2 (by kernel_rfl) (by kernel_rfl) (by kernel_rfl) (by kernel_rfl) (fun m_5 hm_5 => ?_)
   have mo1_5 := m_room_o hm_5 mo1_2
   have mo0_5 := m_room_o hm_5 mo0_2
   have ml_5 : _ = 2 := m_room_l (K := 0) hm_5 ml_2
   clear hm_5 mo1_2 mo0_2 ml_2
   refine dh_ro (fun M_ hM_ => (ro_move s0_3)) trivial ?_
   refine dh_ro (fun M_ hM_ => (ro_move (up_m rfl s2_3))) trivial ?_
   refine dh_ro (fun M_ hM_ => (ro_move (u2 rfl s0_3))) trivial ?_
   refine dh_ro (fun M_ hM_ => (ro_move (up_m rfl (u2 rfl s3_3)))) trivial ?_
   refine dh_ro (fun M_ hM_ => (ro_move (u4 rfl s0_3))) trivial ?_
   refine dh_ro (fun M_ hM_ => (ro_move (up_m rfl (u4 rfl s3_3)))) trivial ?_
   refine dh_ld (1) (fun M_ hM_ => (ro_ix_own y81_sl22 (agr hM_ mo1_5 (by simp)) (up_m rfl up_h) up_h (by omega) (by simp only [lnS] <;> omega))) trivial trivial ?_
   refine dh_ld (1) (fun M_ hM_ => (ro_eq (ro_ld_el y81_ty66 rfl (agr hM_ mo1_5 (by simp)) up_h (nle rfl) (by first | (refine idx_map ?_; first | omega | (simp only [lnS]; omega)) | (refine idx_mapI ?_; first | omega | (simp only [lnS]; omega)) | (refine idx_mapN ?_; first | omega | (simp only [lnS]; omega)) | rfl)) (by simp only [pS, Value.cells, Nat.reduceAdd, jnE, set_jnF] <;> rfl))) trivial trivial ?_
   refine dh_ro (fun M_ hM_ => (ro_move (u8 rfl s0_3))) trivial ?_
   refine dh_ro (fun M_ hM_ => (ro_move (up_m rfl (u8 rfl s2_3)))) trivial ?_
   refine dh_ld (1) (fun M_ hM_ => (ro_ix_own y81_sl22 (agr hM_ mo1_5 (by simp)) (up_m rfl up_h) up_h (by omega) (by simp only [lnS] <;> omega))) trivial trivial ?_
   refine dh_ld (1) (fun M_ hM_ => (ro_eq (ro_ld_el y81_ty66 rfl (agr hM_ mo1_5 (by simp)) up_h (nle rfl) (by first | (refine idx_map ?_; first | omega | (simp only [lnS]; omega)) | (refine idx_mapI ?_; first | omega | (simp only [lnS]; omega)) | (refine idx_mapN ?_; first | omega | (simp only [lnS]; omega)) | rfl)) (by simp only [pS, Value.cells, Nat.reduceAdd, jnE, set_jnF] <;> rfl))) trivial trivial ?_
   refine dh_ld (1) (fun M_ hM_ => (ro_ix_own y81_sl22 (agr hM_ mo1_5 (by simp)) (up_m rfl (u2 rfl (u8 rfl up_h))) (u2 rfl (u8 rfl up_h)) (by omega) (by simp only [lnS] <;> omega))) trivial trivial ?_
   refine dh_set (1) (fun M_ hM_ => (se_store_el up_h (up_m rfl (u4 rfl up_h)) rfl rfl rfl (agr hM_ mo1_5 (by simp)) (Nat.add_zero _).symm (by first | (refine idx_map ?_; first | omega | (simp only [lnS]; omega)) | (refine idx_mapI ?_; first | omega | (simp only [lnS]; omega)) | (refine idx_mapN ?_; first | omega | (simp only [lnS]; omega)) | rfl) qsz66 rfl (nle rfl))) trivial trivial ⟨.inr (wt_one 13 6 (by kernel_rfl)), ⟨.inr (wt_one 13 7 (by kernel_rfl)), ⟨.inr ((wt_one 13 11 (by kernel_rfl)).trans (wt_one 11 10 (by kernel_rfl))), ⟨.inr (wt_one 13 11 (by kernel_rfl)), ⟨.inr (wt_one 13 12 (by kernel_rfl)), trivial⟩⟩⟩⟩⟩ (fun m_6 hm_6 => ?_)
   have mo1_6 := m_set hm_6 mo1_5
   simp only [pS, Value.cells, Nat.reduceAdd, jnE, set_jnF] at mo1_6
   have mo0_6 := m_set_o hm_6 mo0_5 (by decide)
   have ml_6 := m_set_l hm_6 ml_5
   clear hm_6 mo1_5 mo0_5
   refine dh_nil rfl ?_
   refine ar (ro_ix_own y81_sl22 mo1_6 (up_n (u2 rfl (u8 rfl up_h))) (up_n (up_m rfl (u8 rfl up_h))) (by omega) (by simp only [lnS] <;> omega)) rfl ?_
   refine al_stm (st_store_el up_h (up_m rfl (up_n (up_m rfl up_h))) rfl rfl rfl mo1_6 (Nat.add_zero _).symm (by refine idx_mapI ?_; first | omega | (simp only [lnS]; omega)) qsz66 rfl (nle rfl)) trivial rfl (fun m_7 hm_7 => ?_)
   have mo1_7 := m_set hm_7 mo1_6
   simp only [pS, Value.cells, Nat.reduceAdd, jnE, set_jnF] at mo1_7
   have mo0_7 := m_set_o hm_7 mo0_6 (by decide)
   have ml_7 := m_set_l hm_7 ml_6
   clear hm_7 mo1_6 mo0_6
   refine ae3 (up_n (up_m rfl (up_n (up_m rfl (u4 rfl (u8 rfl s0_3)))))) (up_n (up_m rfl (up_n (up_m rfl (u4 rfl (u8 rfl s2_3)))))) (up_n (up_m rfl (up_n (up_m rfl (u4 rfl (u8 rfl s3_3)))))) ?_; clear s0_3 s2_3 s3_3 s9_3; intro e_8 s0_8 s2_8 s3_8
   refine block_n <| then_n <| at_ <| ar (ro_move s2_8) rfl ?_
   (refine ar (ro_add' up_h ev_c ?_) rfl ?_; · (unfold In64; omega))
   refine ar (ro_move (u2 rfl s3_8)) rfl ?_
   (refine ar (ro_sub' up_h ev_c ?_) rfl ?_; · (unfold In64; omega))
   refine ar (ro_assign (u2 rfl up_h)) rfl <| ar (ro_assign (up_m rfl up_h)) rfl <| ae3 (u2 rfl (u4 rfl s0_8)) (up_m rfl up_h) up_h ?_; clear s0_8 s2_8 s3_8; intro e_9 s0_9 s2_9 s3_9
   refine then_n <| ⟨⟨_, _, _⟩, ⟨s2_9, s3_9, (s0_9.trans s0_1.symm), mo1_7, (mo0_7.trans mo0_0.symm), ml_7, ?_⟩, ?_⟩
   ·(refine ⟨by omega, by omega, by omega, ?_⟩; have hs := rvK_step xs (k := i.toNat) (by omega); rw [← p3] at hs; rw [show (i + 1).toNat = i.toNat + 1 by omega, ← hs, show xs.length - 1 - i.toNat = j.toNat by omega])
   ·((try dsimp only); omega)
  replace hq_4 := bf hq_4
  refine aw_exit <| then_x <| then_x <| block_hit <| muQ_eq (.inl rfl) [1] ml_2 mo0_2 (by decide) rfl (resM0 (by kernel_rfl)) (emb_ob mo1_2 ?_ .nil) ?_
  all_goals ((first | rfl | (rw [p3, rvK_rev xs (by omega)]; rfl)))
set_option maxRecDepth 100000 in
set_option maxHeartbeats 4000000 in
theorem revBeams (xs : List Bea) (hx : xs.length ≤ 1000000) : FnMu Try.prog [] 30 [.own 1] [.row 69 2 (xs.map beE)] (.tuple []) [.row 69 2 (xs.reverse.map beE)] := by
 refine fnMu_of (fn := Try.f30) [] 28 (by kernel_rfl) rfl (by kernel_rfl) (Nat.le_of_ble_eq_true rfl) ?_
 intro e_0 m_0 hA hm_0
 have s0_0 : evA e_0 (.tmp 0) = _ := hA 0 _ rfl
 have ml_0 : m_0.length = 2 := by rw [hm_0]; rfl
 have mo0_0 := m_in0 hm_0
 have mo1_0 := m_in1 hm_0
 clear hA hm_0
 refine aw_seq <| at_ <| ar (ro_move s0_0) rfl <| ar (ro_eq (ro_len_own up_h mo1_0 rfl y81_sl23.1) (by simp only [lnS] <;> rfl)) rfl ?_
 (refine ar (ro_sub' up_h ev_c ?_) rfl ?_; · (unfold In64; omega))
 refine ar (ro_assign ev_c) rfl <| ar (ro_assign (up_m rfl up_h)) rfl <| ae3 (up_m rfl (u4 rfl s0_0)) (up_m rfl up_h) up_h ?_; clear s0_0; intro e_1 s0_1 s2_1 s3_1
 refine then_n <| aw_block <| aw_loop (S := (Int × Int × List Bea)) (fun s e mem => match s with | ⟨i, j, ys⟩ => (evA e (.tmp 2) = .v (.int .i64 i)) ∧ (evA e (.tmp 3) = .v (.int .i64 j)) ∧ (evA e (.tmp 0) = evA e_1 (.tmp 0)) ∧ (mem[1]? = some (.row 69 2 (ys.map beE))) ∧ (mem[0]? = m_0[0]?) ∧ (mem.length = 2) ∧ ((0 ≤ i ∧ i + j = xs.length - 1 ∧ i ≤ xs.length ∧ ys = rvK xs i.toNat))) (fun s => match s with | ⟨i, j, ys⟩ => (j - i + 1).toNat) ⟨_, _, xs⟩ ⟨s2_1, s3_1, rfl, mo1_0, rfl, ml_0, ?_⟩ ?_
 ·exact ⟨by omega, by omega, by omega, (rvK_zero xs).symm⟩
 ·rintro ⟨i, j, ys⟩ e_2 m_2 ⟨s2_2, s3_2, k0_2, mo1_2, mk0_2, ml_2, hinv⟩
  have s0_2 := k0_2.trans s0_1
  have mo0_2 := mk0_2.trans mo0_0
  (obtain ⟨p1, p2, p4, p3⟩ := hinv; have hyl : ys.length = xs.length := (by rw [p3, rvK_len]))
  refine aw_seq <| aw_seq <| at_ <| ar (ro_move s2_2) rfl <| ar (ro_move (up_m rfl s3_2)) rfl <| ar (ro_lss (up_m rfl up_h) up_h) rfl <| ae4 (up_m rfl (u2 rfl s0_2)) (up_m rfl (u2 rfl s2_2)) (up_m rfl (u2 rfl s3_2)) up_h ?_; clear s0_2 s2_2 s3_2; intro e_3 s0_3 s2_3 s3_3 s9_3
  refine then_n <| aw_case s9_3 (fun hq_4 => ?_) (fun hq_4 => ?_)
  ·replace hq_4 := bt hq_4
   refine aw_skip <| then_n <| aw_seq <| aw_block <| aw_drawK 14 0 ml_2 (by kernel_rfl) (by kernel_rfl) (by kernel_rfl) (by kernel_rfl) (fun m_5 hm_5 => ?_)
   have mo1_5 := m_room_o hm_5 mo1_2
   have mo0_5 := m_room_o hm_5 mo0_2
   have ml_5 : _ = 2 := m_room_l (K := 0) hm_5 ml_2
   clear hm_5 mo1_2 mo0_2 ml_2
   refine dh_ro (fun M_ hM_ => (ro_move s0_3)) trivial ?_
   refine dh_ro (fun M_ hM_ => (ro_move (up_m rfl s2_3))) trivial ?_
   refine dh_ro (fun M_ hM_ => (ro_move (u2 rfl s0_3))) trivial ?_
   refine dh_ro (fun M_ hM_ => (ro_move (up_m rfl (u2 rfl s3_3)))) trivial ?_
   refine dh_ro (fun M_ hM_ => (ro_move (u4 rfl s0_3))) trivial ?_
   refine dh_ro (fun M_ hM_ => (ro_move (up_m rfl (u4 rfl s3_3)))) trivial ?_
   refine dh_ld (1) (fun M_ hM_ => (ro_ix_own y81_sl23 (agr hM_ mo1_5 (by simp)) (up_m rfl up_h) up_h (by omega) (by simp only [lnS] <;> omega))) trivial trivial ?_
   refine dh_ld (1) (fun M_ hM_ => (ro_eq (ro_ld_el y81_ty69 rfl (agr hM_ mo1_5 (by simp)) up_h (nle rfl) (by first | (refine idx_map ?_; first | omega | (simp only [lnS]; omega)) | (refine idx_mapI ?_; first | omega | (simp only [lnS]; omega)) | (refine idx_mapN ?_; first | omega | (simp only [lnS]; omega)) | rfl)) (by simp only [pS, Value.cells, Nat.reduceAdd, beE, set_beF] <;> rfl))) trivial trivial ?_
   refine dh_ro (fun M_ hM_ => (ro_move (u8 rfl s0_3))) trivial ?_
   refine dh_ro (fun M_ hM_ => (ro_move (up_m rfl (u8 rfl s2_3)))) trivial ?_
   refine dh_ld (1) (fun M_ hM_ => (ro_ix_own y81_sl23 (agr hM_ mo1_5 (by simp)) (up_m rfl up_h) up_h (by omega) (by simp only [lnS] <;> omega))) trivial trivial ?_
   refine dh_ld (1) (fun M_ hM_ => (ro_eq (ro_ld_el y81_ty69 rfl (agr hM_ mo1_5 (by simp)) up_h (nle rfl) (by first | (refine idx_map ?_; first | omega | (simp only [lnS]; omega)) | (refine idx_mapI ?_; first | omega | (simp only [lnS]; omega)) | (refine idx_mapN ?_; first | omega | (simp only [lnS]; omega)) | rfl)) (by simp only [pS, Value.cells, Nat.reduceAdd, beE, set_beF] <;> rfl))) trivial trivial ?_
   refine dh_ld (1) (fun M_ hM_ => (ro_ix_own y81_sl23 (agr hM_ mo1_5 (by simp)) (up_m rfl (u2 rfl (u8 rfl up_h))) (u2 rfl (u8 rfl up_h)) (by omega) (by simp only [lnS] <;> omega))) trivial trivial ?_
   refine dh_set (1) (fun M_ hM_ => (se_store_el up_h (up_m rfl (u4 rfl up_h)) rfl rfl rfl (agr hM_ mo1_5 (by simp)) (Nat.add_zero _).symm (by first | (refine idx_map ?_; first | omega | (simp only [lnS]; omega)) | (refine idx_mapI ?_; first | omega | (simp only [lnS]; omega)) | (refine idx_mapN ?_; first | omega | (simp only [lnS]; omega)) | rfl) qsz69 rfl (nle rfl))) trivial trivial ⟨.inr (wt_one 13 6 (by kernel_rfl)), ⟨.inr (wt_one 13 7 (by kernel_rfl)), ⟨.inr ((wt_one 13 11 (by kernel_rfl)).trans (wt_one 11 10 (by kernel_rfl))), ⟨.inr (wt_one 13 11 (by kernel_rfl)), ⟨.inr (wt_one 13 12 (by kernel_rfl)), trivial⟩⟩⟩⟩⟩ (fun m_6 hm_6 => ?_)
   have mo1_6 := m_set hm_6 mo1_5
   simp only [pS, Value.cells, Nat.reduceAdd, beE, set_beF] at mo1_6
   have mo0_6 := m_set_o hm_6 mo0_5 (by decide)
   have ml_6 := m_set_l hm_6 ml_5
   clear hm_6 mo1_5 mo0_5
   refine dh_nil rfl ?_
   refine ar (ro_ix_own y81_sl23 mo1_6 (up_n (u2 rfl (u8 rfl up_h))) (up_n (up_m rfl (u8 rfl up_h))) (by omega) (by simp only [lnS] <;> omega)) rfl ?_
   refine al_stm (st_store_el up_h (up_m rfl (up_n (up_m rfl up_h))) rfl rfl rfl mo1_6 (Nat.add_zero _).symm (by refine idx_mapI ?_; first | omega | (simp only [lnS]; omega)) qsz69 rfl (nle rfl)) trivial rfl (fun m_7 hm_7 => ?_)
   have mo1_7 := m_set hm_7 mo1_6
   simp only [pS, Value.cells, Nat.reduceAdd, beE, set_beF] at mo1_7
   have mo0_7 := m_set_o hm_7 mo0_6 (by decide)
   have ml_7 := m_set_l hm_7 ml_6
   clear hm_7 mo1_6 mo0_6
   refine ae3 (up_n (up_m rfl (up_n (up_m rfl (u4 rfl (u8 rfl s0_3)))))) (up_n (up_m rfl (up_n (up_m rfl (u4 rfl (u8 rfl s2_3)))))) (up_n (up_m rfl (up_n (up_m rfl (u4 rfl (u8 rfl s3_3)))))) ?_; clear s0_3 s2_3 s3_3 s9_3; intro e_8 s0_8 s2_8 s3_8
   refine block_n <| then_n <| at_ <| ar (ro_move s2_8) rfl ?_
   (refine ar (ro_add' up_h ev_c ?_) rfl ?_; · (unfold In64; omega))
   refine ar (ro_move (u2 rfl s3_8)) rfl ?_
   (refine ar (ro_sub' up_h ev_c ?_) rfl ?_; · (unfold In64; omega))
   refine ar (ro_assign (u2 rfl up_h)) rfl <| ar (ro_assign (up_m rfl up_h)) rfl <| ae3 (u2 rfl (u4 rfl s0_8)) (up_m rfl up_h) up_h ?_; clear s0_8 s2_8 s3_8; intro e_9 s0_9 s2_9 s3_9
   refine then_n <| ⟨⟨_, _, _⟩, ⟨s2_9, s3_9, (s0_9.trans s0_1.symm), mo1_7, (mo0_7.trans mo0_0.symm), ml_7, ?_⟩, ?_⟩
   ·(refine ⟨by omega, by omega, by omega, ?_⟩; have hs := rvK_step xs (k := i.toNat) (by omega); rw [← p3] at hs; rw [show (i + 1).toNat = i.toNat + 1 by omega, ← hs, show xs.length - 1 - i.toNat = j.toNat by omega])
   ·((try dsimp only); omega)
  replace hq_4 := bf hq_4
  refine aw_exit <| then_x <| then_x <| block_hit <| muQ_eq (.inl rfl) [1] ml_2 mo0_2 (by decide) rfl (resM0 (by kernel_rfl)) (emb_ob mo1_2 ?_ .nil) ?_
  all_goals ((first | rfl | (rw [p3, rvK_rev xs (by omega)]; rfl)))
theorem set_be (bs : List Bea) (i : Nat) (n c : Int) : (bs.map beE).set i [AV.v (.int .i64 n), AV.v (.int .i64 c)] = (bs.set i ⟨n, c⟩).map beE := by simp [List.map_set, beE]
theorem getD_set_s {js : List Jnt} {i : Nat} {j : Jnt} (h : i < js.length) : (js.set i j).getD i default = j := by rw [List.getD_eq_getElem?_getD, List.getElem?_set_self h]; rfl
theorem y85_hcf29 : ∀ args w, (callFunc 29 args).run Try.prog w = .ok (.enter 29 args) w := fun _ _ => by kernel_rfl
theorem y85_hcf30 : ∀ args w, (callFunc 30 args).run Try.prog w = .ok (.enter 30 args) w := fun _ _ => by kernel_rfl
theorem y85_hcf31 : ∀ args w, (callFunc 31 args).run Try.prog w = .ok (.enter 31 args) w := fun _ _ => by kernel_rfl
theorem y85_sl22 : SlIs Try.prog 22 66 4 32 (.agg #[.int .i64 0, .int .i64 0, .int .i64 0, .int .i64 0]) := ⟨by kernel_rfl, by kernel_rfl, by kernel_rfl⟩
theorem y85_sl23 : SlIs Try.prog 23 69 2 16 (.agg #[.int .i64 0, .int .i64 0]) := ⟨by kernel_rfl, by kernel_rfl, by kernel_rfl⟩
theorem y85_sl24 : SlIs Try.prog 24 47 3 48 (.agg #[.string ByteArray.empty, .int .i64 0, .slice none 0 0]) := ⟨by kernel_rfl, by kernel_rfl, by kernel_rfl⟩
theorem y85_sl40 : SlIs Try.prog 40 3 1 8 (.int .i64 0) := ⟨by kernel_rfl, by kernel_rfl, by kernel_rfl⟩
theorem y85_ty22 : TyIs Try.prog 22 false 1 := ⟨by kernel_rfl, by kernel_rfl⟩
theorem y85_ty23 : TyIs Try.prog 23 false 1 := ⟨by kernel_rfl, by kernel_rfl⟩
theorem y85_ty24 : TyIs Try.prog 24 false 1 := ⟨by kernel_rfl, by kernel_rfl⟩
theorem y85_ty26 : TyIs Try.prog 26 true 4 := ⟨by kernel_rfl, by kernel_rfl⟩
theorem y85_ty3 : TyIs Try.prog 3 false 1 := ⟨by kernel_rfl, by kernel_rfl⟩
theorem y85_ty40 : TyIs Try.prog 40 false 1 := ⟨by kernel_rfl, by kernel_rfl⟩
theorem updN_all {α : Type} [Inhabited α] (f : α → α) (xs : List α) : updN (fun _ => f) xs xs.length = xs.map f := by
 apply List.ext_getElem (by rw [updN_len, List.length_map])
 intro q h1 h2
 rw [updN_len] at h1
 have := updN_lt (fun _ => f) xs (n := xs.length) h1 h1
 rw [List.getD_eq_getElem?_getD, List.getElem?_eq_getElem (by rw [updN_len]; exact h1), List.getD_eq_getElem?_getD, List.getElem?_eq_getElem h1] at this
 rw [List.getElem_map]; exact this
theorem rev_get {α : Type} [Inhabited α] (xs : List α) {i : Nat} (h : i < xs.length) : xs.reverse.getD i default = xs.getD (xs.length - 1 - i) default := by
 rw [List.getD_eq_getElem?_getD, List.getElem?_reverse h, List.getD_eq_getElem?_getD]
structure RvZ (L b : Nat) (ss : List Swi) (zs : List Hsw) (i : Nat) : Prop where
 len : zs.length = ss.length
 nam : ∀ q, q < ss.length → (zs.getD q default).nam = (ss.getD q default).nam
 fst : ∀ q, q < ss.length → (zs.getD q default).fst = if q < i then (sRev L (ss.getD q default)).fst else (ss.getD q default).fst
theorem RvZ.zero (L b : Nat) (ss : List Swi) : RvZ L b ss (zsN b ss) 0 := ⟨zsN_len b ss, fun q hq => by rw [zsN_at b ss hq], fun q hq => by rw [zsN_at b ss hq]; rfl⟩
theorem RvZ.next {L b : Nat} {ss : List Swi} {zs : List Hsw} {i : Nat} (h : RvZ L b ss zs i) (hi : i < ss.length) {f : Int} (hf : f = (sRev L (ss.getD i default)).fst) : RvZ L b ss (zs.set i ⟨(zs.getD i default).nam, f, hwF zs i⟩) (i + 1) := by
 refine ⟨by rw [List.length_set]; exact h.len, fun q hq => ?_, fun q hq => ?_⟩
 ·by_cases hqi : i = q
  ·subst hqi; rw [List.getD_eq_getElem?_getD, List.getElem?_set_self (by rw [h.len]; exact hq)]; exact h.nam _ hq
  ·rw [List.getD_eq_getElem?_getD, List.getElem?_set_ne hqi, ← List.getD_eq_getElem?_getD]; exact h.nam q hq
 ·by_cases hqi : i = q
  ·subst hqi; rw [List.getD_eq_getElem?_getD, List.getElem?_set_self (by rw [h.len]; exact hq), if_pos (by omega)]; exact hf
  ·rw [List.getD_eq_getElem?_getD, List.getElem?_set_ne hqi, ← List.getD_eq_getElem?_getD, h.fst q hq]
   by_cases c : q < i
   ·rw [if_pos c, if_pos (by omega)]
   ·rw [if_neg c, if_neg (by omega)]
theorem set_hw (zs : List Hsw) (i : Nat) (a : ByteArray) (b : Int) (c : Nat) : (zs.map hwE).set i [AV.v (.string a), AV.v (.int .i64 b), AV.own c] = (zs.set i ⟨a, b, c⟩).map hwE := by simp [List.map_set, hwE]
theorem hwF_set (zs : List Hsw) (i : Nat) (a : ByteArray) (b : Int) : hwF (zs.set i ⟨a, b, hwF zs i⟩) i = hwF zs i := by
 unfold hwF
 by_cases h : i < zs.length
 ·rw [List.getD_eq_getElem?_getD, List.getElem?_set_self h]; rfl
 ·rw [List.set_eq_of_length_le (by omega)]
theorem hwF_set2 (zs : List Hsw) (i : Nat) (a : ByteArray) (b : Int) (q : Nat) : hwF (zs.set i ⟨a, b, hwF zs i⟩) q = hwF zs q := by
 by_cases h : i = q
 ·subst h; exact hwF_set zs i a b
 ·unfold hwF; rw [List.getD_eq_getElem?_getD, List.getElem?_set_ne h, ← List.getD_eq_getElem?_getD]
def acR (L : Nat) (ss : List Swi) (i : Nat) (q : Nat) : List (List AV) := if q < i then (sRev L (ss.getD q default)).acr.map iE else acF ss q
theorem acR_at (L : Nat) (ss : List Swi) (i : Nat) : acR L ss i i = (ss.getD i default).acr.map iE := by unfold acR; rw [if_neg (by omega)]; rfl
theorem acR_0 (L : Nat) (ss : List Swi) (q : Nat) : acR L ss 0 q = acF ss q := by unfold acR; rw [if_neg (by omega)]
theorem acR_next {L : Nat} {ss : List Swi} {i : Nat} {vs : List Int} (hv : vs = (sRev L (ss.getD i default)).acr) (q : Nat) : acR L ss (i + 1) q = if q = i then vs.map iE else acR L ss i q := by
 unfold acR
 by_cases h1 : q = i
 ·subst h1; rw [if_pos (by omega), if_pos rfl, hv]
 ·rw [if_neg h1]
  by_cases h2 : q < i
  ·rw [if_pos h2, if_pos (by omega)]
  ·rw [if_neg h2, if_neg (by omega)]
theorem hw_flat {zs : List Hsw} {q o : Nat} (hq : q < zs.length) (ho : o < 3) : (zs.map hwE).flatten[3 * q + o]? = (hwE (zs.getD q default))[o]? := by
 rw [Nat.mul_comm]
 refine flat_get (fun l hl => by obtain ⟨z, _, rfl⟩ := List.mem_map.1 hl; rfl) ?_ ho
 rw [List.getElem?_map, List.getElem?_eq_getElem hq, List.getD_eq_getElem?_getD, List.getElem?_eq_getElem hq]; rfl
theorem hw_own {zs : List Hsw} {n : Nat} (hz : zs.length = n) : ∀ q, q < n → (zs.map hwE).flatten[3 * q + 2]? = some (.own (hwF zs q)) := fun q hq => by
 rw [hw_flat (by omega) (by omega)]; rfl
theorem sw_done {zs : List Hsw} {els : List (List AV)} {n : Nat} {r : Nat → List (List AV)} {tt : List Swi} (hz : zs.length = n) (ht : tt.length = n) (hl : els.length = (zs.map hwE).length) (h4 : ∀ q, q < n → els.flatten[3 * q + 2]? = some (.row 1 (r q)))
 (h5 : ∀ p, (∀ q, q < n → 3 * q + 2 ≠ p) → els.flatten[p]? = (zs.map hwE).flatten[p]?) (h7 : ∀ K, (∀ x ∈ zs.map hwE, x.length = K) → ∀ x ∈ els, x.length = K)
 (hs : ∀ q, q < n → (zs.getD q default).nam = (tt.getD q default).nam ∧ (zs.getD q default).fst = (tt.getD q default).fst ∧ r q = (tt.getD q default).acr.map iE) : els = tt.map swE := by
 have h3 := h7 3 (fun x hx => by obtain ⟨z, _, rfl⟩ := List.mem_map.1 hx; rfl)
 have hln : els.length = n := by rw [hl, List.length_map, hz]
 apply List.ext_getElem (by rw [hln, List.length_map, ht])
 intro q q1 q2
 have hq : q < n := by omega
 have k3 := h3 els[q] (List.getElem_mem q1)
 have at_ : ∀ o, o < 3 → els.flatten[3 * q + o]? = els[q][o]? := fun o ho => by
  rw [Nat.mul_comm]; exact flat_get h3 (List.getElem?_eq_getElem q1) ho
 obtain ⟨s1, s2, s3⟩ := hs q hq
 have e : (tt.map swE)[q] = swE (tt.getD q default) := by
  rw [List.getElem_map, List.getD_eq_getElem?_getD, List.getElem?_eq_getElem (by omega)]; rfl
 rw [e]
 apply List.ext_getElem?
 intro o
 by_cases ho : o < 3
 ·rw [← at_ o ho]
  rcases (by omega : o = 0 ∨ o = 1 ∨ o = 2) with rfl | rfl | rfl
  ·rw [h5 _ (fun a _ => by omega), hw_flat (by omega) (by omega)]; simp only [hwE, swE, s1]; rfl
  ·rw [h5 _ (fun a _ => by omega), hw_flat (by omega) (by omega)]; simp only [hwE, swE, s2]; rfl
  ·rw [h4 q hq, s3]; rfl
 ·rw [List.getElem?_eq_none (by omega), List.getElem?_eq_none (by simp only [swE, List.length_cons, List.length_nil]; omega)]
theorem swE_ro (ss : List Swi) : roO.roL (ss.map swE).flatten = true := roL_flat (fun _ => rfl) ss
set_option maxRecDepth 100000 in
set_option maxHeartbeats 4000000 in
theorem reversed_good (l : Lin) (hl : Sho l) (hg : (linM l).2 = 0) : FnOk Try.prog 7 [lnA l] (fun q => q = .tuple [lnA (revL l), mA 0]) := by
 refine fnOk_of (fn := Try.f7) 133 (by kernel_rfl) rfl (by kernel_rfl) (Nat.le_of_ble_eq_true rfl) ?_
 intro e_0 m_0 hA hm_0
 have s0_0 : evA e_0 (.tmp 0) = _ := hA 0 _ rfl
 have ml_0 : m_0.length = 0 := by rw [hm_0]; rfl
 clear hA hm_0
 have hr := rgt_of hg; have hjs := hr.js; have hn1 := hr.n1; have hs1 := hr.s1
 refine aw_seq <| at_ <| al_stm (st_box s0_0 rfl ml_0) trivial rfl (fun m_1 hm_1 => ?_)
 have mo0_1 := m_push hm_1 ml_0
 have ml_1 := m_push_l hm_1 ml_0
 have ml_1 : _ = 1 := ml_1
 clear hm_1
 refine al_stm (st_alloc qaz26 rfl ml_1) trivial rfl (fun m_2 hm_2 => ?_)
 have mo1_2 := m_push hm_2 ml_1
 simp only [pS, Value.cells, Nat.reduceAdd, jnE, beE, hwE, set_jn4, set_be, set_hw, hwF_r, hwF_set, set_iE, zsN_rho, Nat.reduceAdd] at mo1_2
 have mo0_2 := m_push_o hm_2 mo0_1
 have ml_2 := m_push_l hm_2 ml_1
 have ml_2 : _ = 2 := ml_2
 clear hm_2 mo0_1
 refine ar (ro_assign ev_c) rfl <| ae2 (u2 rfl up_h) (up_m rfl up_h) ?_; clear s0_0; intro e_3 s1_3 s2_3
 refine then_n <| aw_seq <| aw_seq <| at_ <| ar (ro_eq (ro_ld_ptr y85_ty26 rfl mo0_2 s1_3 (nle rfl)) (by simp only [pS, Value.cells, Nat.reduceAdd, jnE, beE, hwE, set_jn4, set_be, set_hw, hwF_r, hwF_set, set_iE, zsN_rho, Nat.reduceAdd] <;> rfl)) rfl ?_
 refine ar (ro_call (evL_cons up_h evL_nil) rfl (yOpen_good l hl hg) qhcf27) rfl <| ar (ro_move up_h) rfl <| ar (ro_extract up_h rfl) rfl <| ar (ro_extract (up_m rfl up_h) rfl) rfl <| ar (ro_assign (up_m rfl up_h)) rfl <| ar (ro_assign (up_m rfl up_h)) rfl <| ae3 (up_m rfl (u2 rfl (u4 rfl s1_3))) (up_m rfl (u2 rfl (u4 rfl s2_3))) up_h ?_; clear s1_3 s2_3; intro e_4 s1_4 s2_4 s5_4
 refine then_n <| aw_seq <| at_ <| ar (ro_move s5_4) rfl <| ar (ro_neq up_h ev_c) rfl <| ae4 (u2 rfl s1_4) (u2 rfl s2_4) (u2 rfl s5_4) up_h ?_; clear s1_4 s2_4 s5_4; intro e_5 s1_5 s2_5 s5_5 s19_5
 refine then_n <| aw_case s19_5 (fun hq_6 => ?_) (fun hq_6 => ?_)
 ·cases hq_6
 replace hq_6 := bnf hq_6
 refine aw_skip <| then_n <| aw_seq <| at_ <| ar (ro_eq (ro_ld_ptr y85_ty26 rfl mo0_2 s1_5 (nle rfl)) (by simp only [pS, Value.cells, Nat.reduceAdd, jnE, beE, hwE, set_jn4, set_be, set_hw, hwF_r, hwF_set, set_iE, zsN_rho, Nat.reduceAdd] <;> rfl)) rfl ?_
 refine al_stm (st_muE (st_mu' (copied_fam l hl hr.ful) [] ml_2 (evL_cons up_h evL_nil) .nil (by decide) .nil rfl qhcf28) (show _ = .agg [.v (.string l.nam), .own 2, .own 3, .own 4] from rfl)) trivial rfl (fun m_7 hm_7 => ?_)
 have mo1_7 := m_ups_o hm_7 (Nat.le_of_ble_eq_true rfl) mo1_2 (by decide)
 have mo0_7 := m_ups_o hm_7 (Nat.le_of_ble_eq_true rfl) mo0_2 (by decide)
 have mo2_7 : m_7[2]? = some _ := m_ups_n hm_7 (Nat.le_of_ble_eq_true rfl) ml_2 0 rfl
 (try simp only [Ob.rn, rn, rn.rnL, rho, List.length_cons, List.length_nil, List.getElem?_cons_zero, List.getElem?_cons_succ, List.getElem?_nil, Nat.reduceAdd, Nat.reduceSub, Nat.add_zero, Nat.sub_self, jnE, beE, hwE, set_jn4, set_be, set_hw, hwF_r, hwF_set, set_iE, zsN_rho, Nat.reduceAdd] at mo2_7)
 have mo3_7 : m_7[3]? = some _ := m_ups_n hm_7 (Nat.le_of_ble_eq_true rfl) ml_2 1 rfl
 (try simp only [Ob.rn, rn, rn.rnL, rho, List.length_cons, List.length_nil, List.getElem?_cons_zero, List.getElem?_cons_succ, List.getElem?_nil, Nat.reduceAdd, Nat.reduceSub, Nat.add_zero, Nat.sub_self, jnE, beE, hwE, set_jn4, set_be, set_hw, hwF_r, hwF_set, set_iE, zsN_rho, Nat.reduceAdd] at mo3_7)
 have mo4_7 : m_7[4]? = some _ := m_ups_n hm_7 (Nat.le_of_ble_eq_true rfl) ml_2 2 rfl
 (try simp only [Ob.rn, rn, rn.rnL, rho, List.length_cons, List.length_nil, List.getElem?_cons_zero, List.getElem?_cons_succ, List.getElem?_nil, Nat.reduceAdd, Nat.reduceSub, Nat.add_zero, Nat.sub_self, jnE, beE, hwE, set_jn4, set_be, set_hw, hwF_r, hwF_set, set_iE, zsN_rho, Nat.reduceAdd] at mo4_7)
 obtain ⟨moFAM_7, ml_7⟩ := fam_new (B := 5) (k := 4) hm_7 ml_2 rfl (by decide)
 clear hm_7 mo1_2 mo0_2 ml_2
 refine al_stm (st_alloc qaz26 rfl ml_7) trivial rfl (fun m_8 hm_8 => ?_)
 have mo_5_l_ss_length__8 := m_push hm_8 ml_7
 simp only [pS, Value.cells, Nat.reduceAdd, jnE, beE, hwE, set_jn4, set_be, set_hw, hwF_r, hwF_set, set_iE, zsN_rho, Nat.reduceAdd] at mo_5_l_ss_length__8
 have mo1_8 := m_push_o hm_8 mo1_7
 have mo0_8 := m_push_o hm_8 mo0_7
 have mo2_8 := m_push_o hm_8 mo2_7
 have mo3_8 := m_push_o hm_8 mo3_7
 have mo4_8 := m_push_o hm_8 mo4_7
 have moFAM_8 := FamR.m_push_o hm_8 moFAM_7
 have ml_8 := m_push_l hm_8 ml_7
 clear hm_8 mo1_7 mo0_7 mo2_7 mo3_7 mo4_7 moFAM_7
 refine al_stm (st_storeX up_h (up_m rfl up_h) rfl rfl mo_5_l_ss_length__8 qsz26 rfl (nle rfl)) trivial rfl (fun m_9 hm_9 => ?_)
 have mo_5_l_ss_length__9 := m_set hm_9 mo_5_l_ss_length__8
 simp only [pS, Value.cells, Nat.reduceAdd, jnE, beE, hwE, set_jn4, set_be, set_hw, hwF_r, hwF_set, set_iE, zsN_rho, Nat.reduceAdd] at mo_5_l_ss_length__9
 have mo1_9 := m_set_o hm_9 mo1_8 (by omega)
 have mo0_9 := m_set_o hm_9 mo0_8 (by omega)
 have mo2_9 := m_set_o hm_9 mo2_8 (by omega)
 have mo3_9 := m_set_o hm_9 mo3_8 (by omega)
 have mo4_9 := m_set_o hm_9 mo4_8 (by omega)
 have moFAM_9 := FamR.m_set_o hm_9 moFAM_8 (by omega)
 have ml_9 := m_set_l hm_9 ml_8
 clear hm_9 mo_5_l_ss_length__8 mo1_8 mo0_8 mo2_8 mo3_8 mo4_8 moFAM_8
 refine ae2 (up_n (up_m rfl (u2 rfl s2_5))) (up_n up_h) ?_; clear s19_5 s1_5 s2_5 s5_5; intro e_10 s2_10 s6_10
 refine then_n <| aw_seq <| at_ <| ar (ro_fld_ptr qfl26_1 rfl s6_10) rfl <| ar (ro_eq (ro_ld_ptr y85_ty22 rfl mo_5_l_ss_length__9 up_h (nle rfl)) (by simp only [pS, Value.cells, Nat.reduceAdd, jnE, beE, hwE, set_jn4, set_be, set_hw, hwF_r, hwF_set, set_iE, zsN_rho, Nat.reduceAdd] <;> rfl)) rfl ?_
 refine al_stm (st_muE (st_mu' (revJoints l.js (by omega)) [2] ml_9 (evL_cons up_h evL_nil) .nil (by decide) (.ob mo2_9 .nil) rfl y85_hcf29) (rn_ro rfl)) trivial rfl (fun m_11 hm_11 => ?_)
 have mo2_11 : m_11[2]? = some _ := m_ups_t hm_11 (Nat.le_of_ble_eq_true rfl) (by decide) (lt_cons mo2_9 lt_nil) 0 rfl rfl
 (try simp only [Ob.rn, rn, rn.rnL, rho, List.length_cons, List.length_nil, List.getElem?_cons_zero, List.getElem?_cons_succ, List.getElem?_nil, Nat.reduceAdd, Nat.reduceSub, Nat.add_zero, Nat.sub_self, jnE, beE, hwE, set_jn4, set_be, set_hw, hwF_r, hwF_set, set_iE, zsN_rho, Nat.reduceAdd] at mo2_11)
 have mo_5_l_ss_length__11 := m_ups_o hm_11 (Nat.le_of_ble_eq_true rfl) mo_5_l_ss_length__9 (by simp <;> omega)
 have mo1_11 := m_ups_o hm_11 (Nat.le_of_ble_eq_true rfl) mo1_9 (by simp <;> omega)
 have mo0_11 := m_ups_o hm_11 (Nat.le_of_ble_eq_true rfl) mo0_9 (by simp <;> omega)
 have mo3_11 := m_ups_o hm_11 (Nat.le_of_ble_eq_true rfl) mo3_9 (by simp <;> omega)
 have mo4_11 := m_ups_o hm_11 (Nat.le_of_ble_eq_true rfl) mo4_9 (by simp <;> omega)
 have moFAM_11 := FamR.m_ups_o hm_11 (Nat.le_of_ble_eq_true rfl) moFAM_9 (by simp <;> omega)
 have ml_11 : _ = (5 + l.ss.length) + 1 := m_ups_l hm_11 ml_9 0 rfl
 clear hm_11 mo_5_l_ss_length__9 mo1_9 mo0_9 mo2_9 mo3_9 mo4_9 moFAM_9 ml_9
 refine ae2 (up_m rfl (u2 rfl s2_10)) (up_m rfl (u2 rfl s6_10)) ?_; clear s2_10 s6_10; intro e_12 s2_12 s6_12
 refine then_n <| aw_seq <| at_ <| ar (ro_fld_ptr qfl26_2 rfl s6_12) rfl <| ar (ro_eq (ro_ld_ptr y85_ty23 rfl mo_5_l_ss_length__11 up_h (nle rfl)) (by simp only [pS, Value.cells, Nat.reduceAdd, jnE, beE, hwE, set_jn4, set_be, set_hw, hwF_r, hwF_set, set_iE, zsN_rho, Nat.reduceAdd] <;> rfl)) rfl ?_
 refine al_stm (st_muE (st_mu' (revBeams l.bs (by omega)) [3] ml_11 (evL_cons up_h evL_nil) .nil (by decide) (.ob mo3_11 .nil) rfl y85_hcf30) (rn_ro rfl)) trivial rfl (fun m_13 hm_13 => ?_)
 have mo3_13 : m_13[3]? = some _ := m_ups_t hm_13 (Nat.le_of_ble_eq_true rfl) (by decide) (lt_cons mo3_11 lt_nil) 0 rfl rfl
 (try simp only [Ob.rn, rn, rn.rnL, rho, List.length_cons, List.length_nil, List.getElem?_cons_zero, List.getElem?_cons_succ, List.getElem?_nil, Nat.reduceAdd, Nat.reduceSub, Nat.add_zero, Nat.sub_self, jnE, beE, hwE, set_jn4, set_be, set_hw, hwF_r, hwF_set, set_iE, zsN_rho, Nat.reduceAdd] at mo3_13)
 have mo2_13 := m_ups_o hm_13 (Nat.le_of_ble_eq_true rfl) mo2_11 (by simp <;> omega)
 have mo_5_l_ss_length__13 := m_ups_o hm_13 (Nat.le_of_ble_eq_true rfl) mo_5_l_ss_length__11 (by simp <;> omega)
 have mo1_13 := m_ups_o hm_13 (Nat.le_of_ble_eq_true rfl) mo1_11 (by simp <;> omega)
 have mo0_13 := m_ups_o hm_13 (Nat.le_of_ble_eq_true rfl) mo0_11 (by simp <;> omega)
 have mo4_13 := m_ups_o hm_13 (Nat.le_of_ble_eq_true rfl) mo4_11 (by simp <;> omega)
 have moFAM_13 := FamR.m_ups_o hm_13 (Nat.le_of_ble_eq_true rfl) moFAM_11 (by simp <;> omega)
 have ml_13 : _ = (5 + l.ss.length) + 1 := m_ups_l hm_13 ml_11 0 rfl
 clear hm_13 mo2_11 mo_5_l_ss_length__11 mo1_11 mo0_11 mo3_11 mo4_11 moFAM_11 ml_11
 refine ae2 (up_m rfl (u2 rfl s2_12)) (up_m rfl (u2 rfl s6_12)) ?_; clear s2_12 s6_12; intro e_14 s2_14 s6_14
 refine then_n <| aw_seq <| aw_seq <| at_ <| ar (ro_fld_ptr qfl26_1 rfl s6_14) rfl <| ar (ro_eq (ro_ld_ptr y85_ty22 rfl mo_5_l_ss_length__13 up_h (nle rfl)) (by simp only [pS, Value.cells, Nat.reduceAdd, jnE, beE, hwE, set_jn4, set_be, set_hw, hwF_r, hwF_set, set_iE, zsN_rho, Nat.reduceAdd] <;> rfl)) rfl ?_
 refine ar (ro_eq (ro_len_own up_h mo2_13 rfl y85_sl22.1) (by simp only [lnS] <;> rfl)) rfl ?_
 refine ar (ro_move ev_c) rfl <| ae4 (u4 rfl s2_14) (u4 rfl s6_14) (up_m rfl up_h) up_h ?_; clear s2_14 s6_14; intro e_15 s2_15 s6_15 s32_15 s33_15
 refine then_n <| aw_block <| aw_loop (S := (Int × List Jnt)) (fun s e mem => match s with | ⟨a, ys⟩ => (evA e (.tmp 33) = .v (.int .i64 a)) ∧ (evA e (.tmp 2) = evA e_15 (.tmp 2)) ∧ (evA e (.tmp 6) = evA e_15 (.tmp 6)) ∧ (evA e (.tmp 32) = evA e_15 (.tmp 32)) ∧ (mem[2]? = some (.row 66 4 (ys.map jnE))) ∧ (mem[3]? = m_13[3]?) ∧ (mem[(5 + l.ss.length)]? = m_13[(5 + l.ss.length)]?) ∧ (mem[1]? = m_13[1]?) ∧ (mem[0]? = m_13[0]?) ∧ (mem[4]? = m_13[4]?) ∧ (mem.length = (5 + l.ss.length) + 1) ∧ ((0 ≤ a ∧ a ≤ l.js.length ∧ ys = updN (fun _ => jRev) l.js.reverse a.toNat ∧ Fam mem (hwF (zsN 5 l.ss)) l.ss.length l.ss.length 4 3 1 (acF l.ss) 5 (5 + l.ss.length) 4))) (fun s => match s with | ⟨a, ys⟩ => (l.js.length - a).toNat) ⟨_, l.js.reverse⟩ ⟨s33_15, rfl, rfl, rfl, mo2_13, rfl, rfl, rfl, rfl, rfl, ml_13, ?_⟩ ?_
 ·(exact ⟨by omega, by omega, rfl, moFAM_13⟩)
 ·rintro ⟨a, ys⟩ e_16 m_16 ⟨s33_16, k2_16, k6_16, k32_16, mo2_16, mk3_16, mk_5_l_ss_length__16, mk1_16, mk0_16, mk4_16, ml_16, hinv⟩
  have s2_16 := k2_16.trans s2_15
  have s6_16 := k6_16.trans s6_15
  have s32_16 := k32_16.trans s32_15
  have mo3_16 := mk3_16.trans mo3_13
  have mo_5_l_ss_length__16 := mk_5_l_ss_length__16.trans mo_5_l_ss_length__13
  have mo1_16 := mk1_16.trans mo1_13
  have mo0_16 := mk0_16.trans mo0_13
  have mo4_16 := mk4_16.trans mo4_13
  (obtain ⟨a1, a2, a3, hF⟩ := hinv; have hyl : ys.length = l.js.length := (by rw [a3, updN_len, List.length_reverse]))
  refine aw_seq <| at_ <| ar (ro_lss s33_16 s32_16) rfl <| ae5 (up_m rfl s2_16) (up_m rfl s6_16) (up_m rfl s32_16) (up_m rfl s33_16) up_h ?_; clear s2_16 s32_16 s33_16 s6_16; intro e_17 s2_17 s6_17 s32_17 s33_17 s34_17
  refine then_n <| aw_seq <| aw_case s34_17 (fun hq_18 => ?_) (fun hq_18 => ?_)
  ·replace hq_18 := bt hq_18
   refine aw_skip <| then_n <| aw_seq <| aw_block <| aw_seq <| at_ <| ar (ro_move s33_17) rfl <| ar (ro_assign up_h) rfl <| ae5 (u2 rfl s2_17) (u2 rfl s6_17) up_h (u2 rfl s32_17) (u2 rfl s33_17) ?_; clear s2_17 s32_17 s33_17 s34_17 s6_17; intro e_19 s2_19 s6_19 s7_19 s32_19 s33_19
   refine then_n <| aw_seq ?_
   have hyv := hr.jnt (l.js.length - 1 - a.toNat) (by omega); have hye : ys.getD a.toNat default = l.js.getD (l.js.length - 1 - a.toNat) default := (by rw [a3, updN_ge _ _ (Nat.le_refl _), rev_get _ (by omega)]); rw [← hye] at hyv; obtain ⟨y1, y2, y3, y4, y5⟩ := hyv
   refine at_ <| ar (ro_fld_ptr qfl26_1 rfl s6_19) rfl <| ar (ro_eq (ro_ld_ptr y85_ty22 rfl mo_5_l_ss_length__16 up_h (nle rfl)) (by simp only [pS, Value.cells, Nat.reduceAdd, jnE, beE, hwE, set_jn4, set_be, set_hw, hwF_r, hwF_set, set_iE, zsN_rho, Nat.reduceAdd] <;> rfl)) rfl ?_
   refine ar (ro_move (u2 rfl s7_19)) rfl <| ar (ro_ix_own y85_sl22 mo2_16 (up_m rfl up_h) up_h (by omega) (by simp only [lnS] <;> omega)) rfl ?_
   refine ar (ro_assign up_h) rfl <| ae5 (up_m rfl (u4 rfl s2_19)) (up_m rfl (u4 rfl s6_19)) up_h (up_m rfl (u4 rfl s32_19)) (up_m rfl (u4 rfl s33_19)) ?_; clear s2_19 s32_19 s33_19 s6_19 s7_19; intro e_20 s2_20 s6_20 s8_20 s32_20 s33_20
   refine then_n <| aw_drawK 23 0 ml_16 (by kernel_rfl) (by kernel_rfl) (by kernel_rfl) (by kernel_rfl) (fun m_21 hm_21 => ?_)
   have mo2_21 := m_room_o hm_21 mo2_16
   have mo3_21 := m_room_o hm_21 mo3_16
   have mo_5_l_ss_length__21 := m_room_o hm_21 mo_5_l_ss_length__16
   have mo1_21 := m_room_o hm_21 mo1_16
   have mo0_21 := m_room_o hm_21 mo0_16
   have mo4_21 := m_room_o hm_21 mo4_16
   have moFAM_21 := FamR.m_room_o hm_21 hF
   have ml_21 : _ = (5 + l.ss.length) + 1 := m_room_l (K := 0) hm_21 ml_16
   clear hm_21 mo2_16 mo3_16 mo_5_l_ss_length__16 mo1_16 mo0_16 mo4_16 hF ml_16
   refine dh_ro (fun M_ hM_ => (ro_move s8_20)) trivial ?_
   refine dh_ro (fun M_ hM_ => (ro_move (up_m rfl s8_20))) trivial ?_
   refine dh_ro (fun M_ hM_ => (ro_move (u2 rfl s8_20))) trivial ?_
   refine dh_ro (fun M_ hM_ => (ro_nilP up_h)) trivial ?_
   refine dh_ro (fun M_ hM_ => (ro_fld_ptr qfl66_0 rfl up_h)) trivial ?_
   refine dh_ld (2) (fun M_ hM_ => (ro_eq (ro_ld_el y85_ty3 rfl (agr hM_ mo2_21 (by simp)) up_h (nle rfl) (by first | (refine idx_map ?_; first | omega | (simp only [lnS]; omega)) | (refine idx_mapI ?_; first | omega | (simp only [lnS]; omega)) | (refine idx_mapN ?_; first | omega | (simp only [lnS]; omega)) | rfl)) (by simp only [pS, Value.cells, Nat.reduceAdd, jnE, beE, hwE, set_jn4, set_be, set_hw, hwF_r, hwF_set, set_iE, zsN_rho, Nat.reduceAdd] <;> rfl))) trivial trivial ?_
   (refine dh_ro (fun M_ hM_ => (ro_neg' up_h ?_)) trivial ?_; · (unfold In64; omega))
   refine dh_ro (fun M_ hM_ => (ro_move (up_m rfl (u2 rfl (u4 rfl s8_20))))) trivial ?_
   refine dh_ro (fun M_ hM_ => (ro_nilP up_h)) trivial ?_
   refine dh_ro (fun M_ hM_ => (ro_fld_el (o := 0) qfl66_2 rfl up_h)) trivial ?_
   refine dh_ro (fun M_ hM_ => (ro_fld_elO qfl55_1 rfl up_h)) trivial ?_
   refine dh_ld (2) (fun M_ hM_ => (ro_eq (ro_ld_elO y85_ty3 rfl (agr hM_ mo2_21 (by simp)) up_h (nle rfl) (by first | (refine idx_map ?_; first | omega | (simp only [lnS]; omega)) | (refine idx_mapI ?_; first | omega | (simp only [lnS]; omega)) | (refine idx_mapN ?_; first | omega | (simp only [lnS]; omega)) | rfl)) (by simp only [pS, Value.cells, Nat.reduceAdd, jnE, beE, hwE, set_jn4, set_be, set_hw, hwF_r, hwF_set, set_iE, zsN_rho, Nat.reduceAdd] <;> rfl))) trivial trivial ?_
   (refine dh_ro (fun M_ hM_ => (ro_neg' up_h ?_)) trivial ?_; · (unfold In64; omega))
   refine dh_ro (fun M_ hM_ => (ro_move (up_m rfl (u4 rfl (u8 rfl s8_20))))) trivial ?_
   refine dh_ro (fun M_ hM_ => (ro_nilP up_h)) trivial ?_
   refine dh_ro (fun M_ hM_ => (ro_fld_el (o := 0) qfl66_2 rfl up_h)) trivial ?_
   refine dh_ro (fun M_ hM_ => (ro_fld_elO qfl55_0 rfl up_h)) trivial ?_
   refine dh_ld (2) (fun M_ hM_ => (ro_eq (ro_ld_elO y85_ty3 rfl (agr hM_ mo2_21 (by simp)) up_h (nle rfl) (by first | (refine idx_map ?_; first | omega | (simp only [lnS]; omega)) | (refine idx_mapI ?_; first | omega | (simp only [lnS]; omega)) | (refine idx_mapN ?_; first | omega | (simp only [lnS]; omega)) | rfl)) (by simp only [pS, Value.cells, Nat.reduceAdd, jnE, beE, hwE, set_jn4, set_be, set_hw, hwF_r, hwF_set, set_iE, zsN_rho, Nat.reduceAdd] <;> rfl))) trivial trivial ?_
   (refine dh_ro (fun M_ hM_ => (ro_neg' up_h ?_)) trivial ?_; · (unfold In64; omega))
   refine dh_ro (fun M_ hM_ => (ro_build (evP_cons (u2 rfl (u4 rfl up_h)) (evP_cons up_h evP_nil)) qbz55 qbu55 qbp55 rfl)) trivial ?_
   refine dh_ro (fun M_ hM_ => (ro_nilP (up_m rfl (u2 rfl (u16 rfl up_h))))) trivial ?_
   refine dh_ro (fun M_ hM_ => (ro_fld_ptr qfl66_0 rfl up_h)) trivial ?_
   refine dh_set (2) (fun M_ hM_ => (se_store_el up_h (up_m rfl (u2 rfl (u4 rfl (u8 rfl up_h)))) rfl rfl rfl (agr hM_ mo2_21 (by simp)) (Nat.add_zero _).symm (by first | (refine idx_map ?_; first | omega | (simp only [lnS]; omega)) | (refine idx_mapI ?_; first | omega | (simp only [lnS]; omega)) | (refine idx_mapN ?_; first | omega | (simp only [lnS]; omega)) | rfl) qsz3 rfl (nle rfl))) trivial trivial ⟨.inr (wt_one 22 5 (by kernel_rfl)), ⟨.inr (wt_one 22 11 (by kernel_rfl)), ⟨.inr (wt_one 22 17 (by kernel_rfl)), trivial⟩⟩⟩ (fun m_22 hm_22 => ?_)
   have mo2_22 := m_set hm_22 mo2_21
   simp only [pS, Value.cells, Nat.reduceAdd, jnE, beE, hwE, set_jn4, set_be, set_hw, hwF_r, hwF_set, set_iE, zsN_rho, Nat.reduceAdd] at mo2_22
   have mo3_22 := m_set_o hm_22 mo3_21 (by decide)
   have mo_5_l_ss_length__22 := m_set_o hm_22 mo_5_l_ss_length__21 (by omega)
   have mo1_22 := m_set_o hm_22 mo1_21 (by decide)
   have mo0_22 := m_set_o hm_22 mo0_21 (by decide)
   have mo4_22 := m_set_o hm_22 mo4_21 (by decide)
   have moFAM_22 := FamR.m_set_o hm_22 moFAM_21 (by omega)
   have ml_22 := m_set_l hm_22 ml_21
   clear hm_22 mo2_21 mo3_21 mo_5_l_ss_length__21 mo1_21 mo0_21 mo4_21 moFAM_21
   refine dh_nil rfl ?_
   refine ar (ro_nilP (up_n (u4 rfl (u16 rfl up_h)))) rfl <| ar (ro_fld_el (o := 0) qfl66_2 rfl up_h) rfl <| al_stm (st_store_el up_h (u2 rfl (up_n (u2 rfl up_h))) rfl rfl rfl mo2_22 rfl (by refine idx_mapI ?_; first | omega | (simp only [lnS]; omega)) qsz55 rfl (nle rfl)) trivial rfl (fun m_23 hm_23 => ?_)
   have mo2_23 := m_set hm_23 mo2_22
   simp only [pS, Value.cells, Nat.reduceAdd, jnE, beE, hwE, set_jn4, set_be, set_hw, hwF_r, hwF_set, set_iE, zsN_rho, Nat.reduceAdd] at mo2_23
   have mo3_23 := m_set_o hm_23 mo3_22 (by decide)
   have mo_5_l_ss_length__23 := m_set_o hm_23 mo_5_l_ss_length__22 (by omega)
   have mo1_23 := m_set_o hm_23 mo1_22 (by decide)
   have mo0_23 := m_set_o hm_23 mo0_22 (by decide)
   have mo4_23 := m_set_o hm_23 mo4_22 (by decide)
   have moFAM_23 := FamR.m_set_o hm_23 moFAM_22 (by omega)
   have ml_23 := m_set_l hm_23 ml_22
   clear hm_23 mo2_22 mo3_22 mo_5_l_ss_length__22 mo1_22 mo0_22 mo4_22 moFAM_22
   refine ae4 (up_n (u2 rfl (up_n (u2 rfl (u4 rfl (u16 rfl s2_20)))))) (up_n (u2 rfl (up_n (u2 rfl (u4 rfl (u16 rfl s6_20)))))) (up_n (u2 rfl (up_n (u2 rfl (u4 rfl (u16 rfl s32_20)))))) (up_n (u2 rfl (up_n (u2 rfl (u4 rfl (u16 rfl s33_20)))))) ?_; clear s2_20 s32_20 s33_20 s6_20 s8_20; intro e_24 s2_24 s6_24 s32_24 s33_24
   refine block_n <| then_n <| at_ ?_
   (refine ar (ro_add' s33_24 ev_c ?_) rfl ?_; · (unfold In64; omega))
   refine ar (ro_move up_h) rfl <| ae4 (u2 rfl s2_24) (u2 rfl s6_24) (u2 rfl s32_24) up_h ?_; clear s2_24 s32_24 s33_24 s6_24; intro e_25 s2_25 s6_25 s32_25 s33_25
   refine then_n <| ⟨⟨_, _⟩, ⟨s33_25, (s2_25.trans s2_15.symm), (s6_25.trans s6_15.symm), (s32_25.trans s32_15.symm), mo2_23, (mo3_23.trans mo3_13.symm), (mo_5_l_ss_length__23.trans mo_5_l_ss_length__13.symm), (mo1_23.trans mo1_13.symm), (mo0_23.trans mo0_13.symm), (mo4_23.trans mo4_13.symm), ml_23, ?_⟩, ?_⟩
   ·(refine ⟨by omega, by omega, ?_, moFAM_23⟩; rw [show (a + 1).toNat = a.toNat + 1 by omega]; simp only [updN]; rw [← a3, List.set_set, getD_set_s (by omega)]; rfl)
   ·((try dsimp only); omega)
  replace hq_18 := bf hq_18
  refine aw_exit <| then_x <| then_x <| block_hit <| then_n <| aw_seq <| aw_seq <| at_ <| ar (ro_fld_ptr qfl26_2 rfl s6_17) rfl <| ar (ro_eq (ro_ld_ptr y85_ty23 rfl mo_5_l_ss_length__16 up_h (nle rfl)) (by simp only [pS, Value.cells, Nat.reduceAdd, jnE, beE, hwE, set_jn4, set_be, set_hw, hwF_r, hwF_set, set_iE, zsN_rho, Nat.reduceAdd] <;> rfl)) rfl ?_
  refine ar (ro_eq (ro_len_own up_h mo3_16 rfl y85_sl23.1) (by simp only [lnS] <;> rfl)) rfl ?_
  refine ar (ro_move ev_c) rfl <| ae4 (u4 rfl s2_17) (u4 rfl s6_17) (up_m rfl up_h) up_h ?_; clear s2_17 s32_17 s33_17 s34_17 s6_17; intro e_26 s2_26 s6_26 s67_26 s68_26
  refine then_n <| aw_block <| aw_loop (S := (Int × List Bea)) (fun s e mem => match s with | ⟨b, us⟩ => (evA e (.tmp 68) = .v (.int .i64 b)) ∧ (evA e (.tmp 2) = evA e_26 (.tmp 2)) ∧ (evA e (.tmp 6) = evA e_26 (.tmp 6)) ∧ (evA e (.tmp 67) = evA e_26 (.tmp 67)) ∧ (mem[3]? = some (.row 69 2 (us.map beE))) ∧ (mem[2]? = m_16[2]?) ∧ (mem[(5 + l.ss.length)]? = m_16[(5 + l.ss.length)]?) ∧ (mem[1]? = m_16[1]?) ∧ (mem[0]? = m_16[0]?) ∧ (mem[4]? = m_16[4]?) ∧ (mem.length = (5 + l.ss.length) + 1) ∧ ((0 ≤ b ∧ b ≤ l.bs.length ∧ us = updN (fun _ => bRev) l.bs.reverse b.toNat ∧ Fam mem (hwF (zsN 5 l.ss)) l.ss.length l.ss.length 4 3 1 (acF l.ss) 5 (5 + l.ss.length) 4))) (fun s => match s with | ⟨b, us⟩ => (l.bs.length - b).toNat) ⟨_, l.bs.reverse⟩ ⟨s68_26, rfl, rfl, rfl, mo3_16, rfl, rfl, rfl, rfl, rfl, ml_16, ?_⟩ ?_
  ·(exact ⟨by omega, by omega, rfl, hF⟩)
  ·rintro ⟨b, us⟩ e_27 m_27 ⟨s68_27, k2_27, k6_27, k67_27, mo3_27, mk2_27, mk_5_l_ss_length__27, mk1_27, mk0_27, mk4_27, ml_27, hinv⟩
   have s2_27 := k2_27.trans s2_26
   have s6_27 := k6_27.trans s6_26
   have s67_27 := k67_27.trans s67_26
   have mo2_27 := mk2_27.trans mo2_16
   have mo_5_l_ss_length__27 := mk_5_l_ss_length__27.trans mo_5_l_ss_length__16
   have mo1_27 := mk1_27.trans mo1_16
   have mo0_27 := mk0_27.trans mo0_16
   have mo4_27 := mk4_27.trans mo4_16
   (obtain ⟨b1, b2, b3, hF2⟩ := hinv; have hul : us.length = l.bs.length := (by rw [b3, updN_len, List.length_reverse]))
   refine aw_seq <| at_ <| ar (ro_lss s68_27 s67_27) rfl <| ae5 (up_m rfl s2_27) (up_m rfl s6_27) (up_m rfl s67_27) (up_m rfl s68_27) up_h ?_; clear s2_27 s67_27 s68_27 s6_27; intro e_28 s2_28 s6_28 s67_28 s68_28 s69_28
   refine then_n <| aw_seq <| aw_case s69_28 (fun hq_29 => ?_) (fun hq_29 => ?_)
   ·replace hq_29 := bt hq_29
    refine aw_skip <| then_n <| aw_seq <| aw_block <| aw_seq <| at_ <| ar (ro_move s68_28) rfl <| ar (ro_assign up_h) rfl <| ae5 (u2 rfl s2_28) (u2 rfl s6_28) up_h (u2 rfl s67_28) (u2 rfl s68_28) ?_; clear s2_28 s67_28 s68_28 s69_28 s6_28; intro e_30 s2_30 s6_30 s9_30 s67_30 s68_30
    refine then_n ?_
    have huv := hr.bea (l.bs.length - 1 - b.toNat) (by omega); have hue : us.getD b.toNat default = l.bs.getD (l.bs.length - 1 - b.toNat) default := (by rw [b3, updN_ge _ _ (Nat.le_refl _), rev_get _ (by omega)]); rw [← hue] at huv
    refine at_ <| ar (ro_fld_ptr qfl26_2 rfl s6_30) rfl <| ar (ro_eq (ro_ld_ptr y85_ty23 rfl mo_5_l_ss_length__27 up_h (nle rfl)) (by simp only [pS, Value.cells, Nat.reduceAdd, jnE, beE, hwE, set_jn4, set_be, set_hw, hwF_r, hwF_set, set_iE, zsN_rho, Nat.reduceAdd] <;> rfl)) rfl ?_
    refine ar (ro_move (u2 rfl s9_30)) rfl <| ar (ro_ix_own y85_sl23 mo3_27 (up_m rfl up_h) up_h (by omega) (by simp only [lnS] <;> omega)) rfl ?_
    refine ar (ro_fld_el (o := 0) qfl69_1 rfl up_h) rfl <| ar (ro_eq (ro_ld_elO y85_ty3 rfl mo3_27 up_h (nle rfl) (by first | (refine idx_map ?_; first | omega | (simp only [lnS]; omega)) | (refine idx_mapI ?_; first | omega | (simp only [lnS]; omega)) | (refine idx_mapN ?_; first | omega | (simp only [lnS]; omega)) | rfl)) (by simp only [pS, Value.cells, Nat.reduceAdd, jnE, beE, hwE, set_jn4, set_be, set_hw, hwF_r, hwF_set, set_iE, zsN_rho, Nat.reduceAdd] <;> rfl)) rfl ?_
    (refine ar (ro_mul' up_h ev_c ?_) rfl ?_; · (unfold In64; omega))
    refine ar (ro_ix_own y85_sl23 mo3_27 (up_m rfl (u4 rfl up_h)) (u4 rfl up_h) (by omega) (by simp only [lnS] <;> omega)) rfl ?_
    refine ar (ro_fld_el (o := 0) qfl69_1 rfl up_h) rfl <| al_stm (st_store_el up_h (u2 rfl up_h) rfl rfl rfl mo3_27 rfl (by first | (refine idx_map ?_; first | omega | (simp only [lnS]; omega)) | (refine idx_mapI ?_; first | omega | (simp only [lnS]; omega)) | (refine idx_mapN ?_; first | omega | (simp only [lnS]; omega)) | rfl) qsz3 rfl (nle rfl)) trivial rfl (fun m_31 hm_31 => ?_)
    have mo3_31 := m_set hm_31 mo3_27
    simp only [pS, Value.cells, Nat.reduceAdd, jnE, beE, hwE, set_jn4, set_be, set_hw, hwF_r, hwF_set, set_iE, zsN_rho, Nat.reduceAdd] at mo3_31
    have mo2_31 := m_set_o hm_31 mo2_27 (by decide)
    have mo_5_l_ss_length__31 := m_set_o hm_31 mo_5_l_ss_length__27 (by omega)
    have mo1_31 := m_set_o hm_31 mo1_27 (by decide)
    have mo0_31 := m_set_o hm_31 mo0_27 (by decide)
    have mo4_31 := m_set_o hm_31 mo4_27 (by decide)
    have moFAM_31 := FamR.m_set_o hm_31 hF2 (by omega)
    have ml_31 := m_set_l hm_31 ml_27
    clear hm_31 mo3_27 mo2_27 mo_5_l_ss_length__27 mo1_27 mo0_27 mo4_27 hF2
    refine ae4 (up_n (up_m rfl (u8 rfl s2_30))) (up_n (up_m rfl (u8 rfl s6_30))) (up_n (up_m rfl (u8 rfl s67_30))) (up_n (up_m rfl (u8 rfl s68_30))) ?_; clear s2_30 s67_30 s68_30 s6_30 s9_30; intro e_32 s2_32 s6_32 s67_32 s68_32
    refine block_n <| then_n <| at_ ?_
    (refine ar (ro_add' s68_32 ev_c ?_) rfl ?_; · (unfold In64; omega))
    refine ar (ro_move up_h) rfl <| ae4 (u2 rfl s2_32) (u2 rfl s6_32) (u2 rfl s67_32) up_h ?_; clear s2_32 s67_32 s68_32 s6_32; intro e_33 s2_33 s6_33 s67_33 s68_33
    refine then_n <| ⟨⟨_, _⟩, ⟨s68_33, (s2_33.trans s2_26.symm), (s6_33.trans s6_26.symm), (s67_33.trans s67_26.symm), mo3_31, (mo2_31.trans mo2_16.symm), (mo_5_l_ss_length__31.trans mo_5_l_ss_length__16.symm), (mo1_31.trans mo1_16.symm), (mo0_31.trans mo0_16.symm), (mo4_31.trans mo4_16.symm), ml_31, ?_⟩, ?_⟩
    ·(refine ⟨by omega, by omega, ?_, moFAM_31⟩; rw [show (b + 1).toNat = b.toNat + 1 by omega]; simp only [updN]; rw [← b3]; unfold bRev; rw [Int.mul_neg, Int.mul_one])
    ·((try dsimp only); omega)
   replace hq_29 := bf hq_29
   refine aw_exit <| then_x <| then_x <| block_hit <| then_n <| aw_seq <| aw_seq <| at_ <| ar (ro_fld_ptr qfl26_3 rfl s6_28) rfl <| ar (ro_eq (ro_ld_ptr y85_ty24 rfl mo_5_l_ss_length__27 up_h (nle rfl)) (by simp only [pS, Value.cells, Nat.reduceAdd, jnE, beE, hwE, set_jn4, set_be, set_hw, hwF_r, hwF_set, set_iE, zsN_rho, Nat.reduceAdd] <;> rfl)) rfl ?_
   refine ar (ro_eq (ro_len_H up_h mo4_27 rfl y85_sl24.1) (by simp only [lnS] <;> rfl)) rfl ?_
   refine ar (ro_move ev_c) rfl <| ae4 (u4 rfl s2_28) (u4 rfl s6_28) (up_m rfl up_h) up_h ?_; clear s2_28 s67_28 s68_28 s69_28 s6_28; intro e_34 s2_34 s6_34 s83_34 s84_34
   refine then_n <| aw_block <| aw_loop (S := (Int × List Hsw)) (fun s e mem => match s with | ⟨i, zs⟩ => (evA e (.tmp 84) = .v (.int .i64 i)) ∧ (evA e (.tmp 2) = evA e_34 (.tmp 2)) ∧ (evA e (.tmp 6) = evA e_34 (.tmp 6)) ∧ (evA e (.tmp 83) = evA e_34 (.tmp 83)) ∧ (mem[4]? = some (.rowH 47 3 (zs.map hwE))) ∧ (mem[3]? = m_27[3]?) ∧ (mem[2]? = m_27[2]?) ∧ (mem[(5 + l.ss.length)]? = m_27[(5 + l.ss.length)]?) ∧ (mem[1]? = m_27[1]?) ∧ (mem[0]? = m_27[0]?) ∧ (mem.length = (5 + l.ss.length) + 1) ∧ ((0 ≤ i ∧ i ≤ l.ss.length ∧ RvZ l.js.length 5 l.ss zs i.toNat ∧ Fam mem (hwF zs) l.ss.length l.ss.length 4 3 1 (acR l.js.length l.ss i.toNat) 5 (5 + l.ss.length) 4))) (fun s => match s with | ⟨i, zs⟩ => (l.ss.length - i).toNat) ⟨_, zsN 5 l.ss⟩ ⟨s84_34, rfl, rfl, rfl, mo4_27, rfl, rfl, rfl, rfl, rfl, ml_27, ?_⟩ ?_
   ·(exact ⟨by omega, by omega, RvZ.zero _ _ _, hF2.congr (fun _ _ => rfl) (fun q _ _ => acR_0 _ _ q)⟩)
   ·rintro ⟨i, zs⟩ e_35 m_35 ⟨s84_35, k2_35, k6_35, k83_35, mo4_35, mk3_35, mk2_35, mk_5_l_ss_length__35, mk1_35, mk0_35, ml_35, hinv⟩
    have s2_35 := k2_35.trans s2_34
    have s6_35 := k6_35.trans s6_34
    have s83_35 := k83_35.trans s83_34
    have mo3_35 := mk3_35.trans mo3_27
    have mo2_35 := mk2_35.trans mo2_27
    have mo_5_l_ss_length__35 := mk_5_l_ss_length__35.trans mo_5_l_ss_length__27
    have mo1_35 := mk1_35.trans mo1_27
    have mo0_35 := mk0_35.trans mo0_27
    (obtain ⟨i1, i2, i3, hF3⟩ := hinv; have hzl := i3.len; have hzn := zsN_len 5 l.ss; have hso := hl.at i.toNat)
    refine aw_seq <| at_ <| ar (ro_lss s84_35 s83_35) rfl <| ae5 (up_m rfl s2_35) (up_m rfl s6_35) (up_m rfl s83_35) (up_m rfl s84_35) up_h ?_; clear s2_35 s6_35 s83_35 s84_35; intro e_36 s2_36 s6_36 s83_36 s84_36 s85_36
    refine then_n <| aw_seq <| aw_case s85_36 (fun hq_37 => ?_) (fun hq_37 => ?_)
    ·replace hq_37 := bt hq_37
     refine aw_skip <| then_n <| aw_seq <| aw_block <| aw_seq <| at_ <| ar (ro_move s84_36) rfl <| ar (ro_assign up_h) rfl <| ae5 (u2 rfl s2_36) (u2 rfl s6_36) up_h (u2 rfl s83_36) (u2 rfl s84_36) ?_; clear s2_36 s6_36 s83_36 s84_36 s85_36; intro e_38 s2_38 s6_38 s10_38 s83_38 s84_38
     refine then_n <| aw_seq ?_
     have kl := hF3.lo i.toNat (by omega); have kh := hF3.hi i.toNat (by omega); obtain ⟨w1, w2, w3, w4⟩ := hr.swi (i := i.toNat) (by omega); have hzf := i3.fst i.toNat (by omega); rw [if_neg (by omega)] at hzf; have hff : (l.js.length : Int) - (zs.getD i.toNat default).fst - (l.ss.getD i.toNat default).acr.length = (sRev l.js.length (l.ss.getD i.toNat default)).fst := (by rw [hzf]; rfl)
     refine at_ <| ar (ro_fld_ptr qfl26_3 rfl s6_38) rfl <| ar (ro_eq (ro_ld_ptr y85_ty24 rfl mo_5_l_ss_length__35 up_h (nle rfl)) (by simp only [pS, Value.cells, Nat.reduceAdd, jnE, beE, hwE, set_jn4, set_be, set_hw, hwF_r, hwF_set, set_iE, zsN_rho, Nat.reduceAdd] <;> rfl)) rfl ?_
     refine ar (ro_move (u2 rfl s10_38)) rfl <| ar (ro_ix_H y85_sl24 mo4_35 (up_m rfl up_h) up_h (by omega) (by simp only [lnS] <;> omega)) rfl ?_
     refine ar (ro_assign up_h) rfl <| ae5 (up_m rfl (u4 rfl s2_38)) (up_m rfl (u4 rfl s6_38)) up_h (up_m rfl (u4 rfl s83_38)) (up_m rfl (u4 rfl s84_38)) ?_; clear s10_38 s2_38 s6_38 s83_38 s84_38; intro e_39 s2_39 s6_39 s11_39 s83_39 s84_39
     refine then_n <| aw_seq ?_
     obtain ⟨mo_hwF_zs_i_toNat__40, moFAM_40⟩ := hF3.take (q := i.toNat) (by omega)
     rw [acR_at] at mo_hwF_zs_i_toNat__40
     refine aw_draw 17 (by kernel_rfl) (by kernel_rfl) (by kernel_rfl) (by kernel_rfl) ?_
     refine dr (ro_move s11_39) rfl <| dr (ro_fld_ptr qfl26_1 rfl (up_m rfl s6_39)) rfl <| dr (ro_eq (ro_ld_ptr y85_ty22 rfl mo_5_l_ss_length__35 up_h (nle rfl)) (by simp only [pS, Value.cells, Nat.reduceAdd, jnE, beE, hwE, set_jn4, set_be, set_hw, hwF_r, hwF_set, set_iE, zsN_rho, Nat.reduceAdd] <;> rfl)) rfl ?_
     refine dr (ro_eq (ro_len_own up_h mo2_35 rfl y85_sl22.1) (by simp only [lnS] <;> rfl)) rfl ?_
     refine dr (ro_move (u4 rfl s11_39)) rfl <| dr (ro_nilP up_h) rfl <| dr (ro_fld_el (o := 0) qfl47_1 rfl up_h) rfl <| dr (ro_eq (ro_ld_elH y85_ty3 rfl mo4_35 up_h (nle rfl) (by first | (refine idx_map ?_; first | omega | (simp only [lnS]; omega)) | (refine idx_mapI ?_; first | omega | (simp only [lnS]; omega)) | (refine idx_mapN ?_; first | omega | (simp only [lnS]; omega)) | rfl)) (by simp only [pS, Value.cells, Nat.reduceAdd, jnE, beE, hwE, set_jn4, set_be, set_hw, hwF_r, hwF_set, set_iE, zsN_rho, Nat.reduceAdd] <;> rfl)) rfl ?_
     (refine dr (ro_sub' (u4 rfl up_h) up_h ?_) rfl ?_; · (unfold In64; omega))
     refine dr (ro_move (up_m rfl (u8 rfl s11_39))) rfl <| dr (ro_nilP up_h) rfl <| dr (ro_fld_el (o := 0) qfl47_2 rfl up_h) rfl <| dr (ro_eq (ro_ld_elH y85_ty40 rfl mo4_35 up_h (nle rfl) (by first | (refine idx_map ?_; first | omega | (simp only [lnS]; omega)) | (refine idx_mapI ?_; first | omega | (simp only [lnS]; omega)) | (refine idx_mapN ?_; first | omega | (simp only [lnS]; omega)) | rfl)) (by simp only [pS, Value.cells, Nat.reduceAdd, jnE, beE, hwE, set_jn4, set_be, set_hw, hwF_r, hwF_set, set_iE, zsN_rho, Nat.reduceAdd] <;> rfl)) rfl ?_
     refine dr (ro_eq (ro_len_own up_h mo_hwF_zs_i_toNat__40 rfl y85_sl40.1) (by simp only [lnS] <;> rfl)) rfl ?_
     (refine dr (ro_sub' (up_m rfl (u4 rfl up_h)) up_h ?_) rfl ?_; · (unfold In64; omega))
     refine dr (ro_nilP (u2 rfl (u4 rfl (u8 rfl up_h)))) rfl <| dr (ro_fld_el (o := 0) qfl47_1 rfl up_h) rfl <| ds_nil <| al_stm (st_store_elH up_h (u2 rfl up_h) rfl rfl mo4_35 rfl (by first | (refine idx_map ?_; first | omega | (simp only [lnS]; omega)) | (refine idx_mapI ?_; first | omega | (simp only [lnS]; omega)) | (refine idx_mapN ?_; first | omega | (simp only [lnS]; omega)) | rfl) qsz3 rfl (nle rfl)) trivial rfl (fun m_41 hm_41 => ?_)
     have mo4_41 := m_set hm_41 mo4_35
     simp only [pS, Value.cells, Nat.reduceAdd, jnE, beE, hwE, set_jn4, set_be, set_hw, hwF_r, hwF_set, set_iE, zsN_rho, Nat.reduceAdd] at mo4_41
     have mo3_41 := m_set_o hm_41 mo3_35 (by decide)
     have mo2_41 := m_set_o hm_41 mo2_35 (by decide)
     have mo_5_l_ss_length__41 := m_set_o hm_41 mo_5_l_ss_length__35 (by omega)
     have mo1_41 := m_set_o hm_41 mo1_35 (by decide)
     have mo0_41 := m_set_o hm_41 mo0_35 (by decide)
     have moFAM_41 := FamR.m_set_o hm_41 moFAM_40 (by omega)
     have mo_hwF_zs_i_toNat__41 := m_set_o hm_41 mo_hwF_zs_i_toNat__40 (by omega)
     have ml_41 := m_set_l hm_41 ml_35
     clear hm_41 mo4_35 mo3_35 mo2_35 mo_5_l_ss_length__35 mo1_35 mo0_35 moFAM_40 mo_hwF_zs_i_toNat__40
     refine ae5 (up_n (up_m rfl (u16 rfl s2_39))) (up_n (up_m rfl (u16 rfl s6_39))) (up_n (up_m rfl (u16 rfl s11_39))) (up_n (up_m rfl (u16 rfl s83_39))) (up_n (up_m rfl (u16 rfl s84_39))) ?_; clear s11_39 s2_39 s6_39 s83_39 s84_39; intro e_42 s2_42 s6_42 s11_42 s83_42 s84_42
     refine then_n <| aw_seq <| at_ <| ar (ro_move s11_42) rfl <| ar (ro_nilP up_h) rfl <| ar (ro_fld_el (o := 0) qfl47_2 rfl up_h) rfl <| ar (ro_eq (ro_ld_elH y85_ty40 rfl mo4_41 up_h (nle rfl) (by refine idx_mapI ?_; first | omega | (simp only [lnS]; omega))) (by simp only [pS, Value.cells, Nat.reduceAdd, jnE, beE, hwE, set_jn4, set_be, set_hw, hwF_r, hwF_set, set_iE, zsN_rho, Nat.reduceAdd] <;> rfl)) rfl ?_
     refine al_stm (st_muE (st_mu' (revInts (l.ss.getD i.toNat default).acr (hl.at i.toNat).2) [(hwF zs i.toNat)] ml_41 (evL_cons up_h evL_nil) .nil (by simp <;> omega) (.ob mo_hwF_zs_i_toNat__41 .nil) rfl y85_hcf31) (rn_ro rfl)) trivial rfl (fun m_43 hm_43 => ?_)
     have mo_hwF_zs_i_toNat__43 : m_43[(hwF zs i.toNat)]? = some _ := m_ups_t hm_43 (Nat.le_of_ble_eq_true rfl) (by simp <;> omega) (lt_cons mo_hwF_zs_i_toNat__41 lt_nil) 0 rfl rfl
     (try simp only [Ob.rn, rn, rn.rnL, rho, List.length_cons, List.length_nil, List.getElem?_cons_zero, List.getElem?_cons_succ, List.getElem?_nil, Nat.reduceAdd, Nat.reduceSub, Nat.add_zero, Nat.sub_self, jnE, beE, hwE, set_jn4, set_be, set_hw, hwF_r, hwF_set, set_iE, zsN_rho, Nat.reduceAdd] at mo_hwF_zs_i_toNat__43)
     have mo4_43 := m_ups_o hm_43 (Nat.le_of_ble_eq_true rfl) mo4_41 (by simp <;> omega)
     have mo3_43 := m_ups_o hm_43 (Nat.le_of_ble_eq_true rfl) mo3_41 (by simp <;> omega)
     have mo2_43 := m_ups_o hm_43 (Nat.le_of_ble_eq_true rfl) mo2_41 (by simp <;> omega)
     have mo_5_l_ss_length__43 := m_ups_o hm_43 (Nat.le_of_ble_eq_true rfl) mo_5_l_ss_length__41 (by simp <;> omega)
     have mo1_43 := m_ups_o hm_43 (Nat.le_of_ble_eq_true rfl) mo1_41 (by simp <;> omega)
     have mo0_43 := m_ups_o hm_43 (Nat.le_of_ble_eq_true rfl) mo0_41 (by simp <;> omega)
     have moFAM_43 := FamR.m_ups_o hm_43 (Nat.le_of_ble_eq_true rfl) moFAM_41 (by simp <;> omega)
     have ml_43 : _ = (5 + l.ss.length) + 1 := m_ups_l hm_43 ml_41 0 rfl
     clear hm_43 mo4_41 mo3_41 mo2_41 mo_5_l_ss_length__41 mo1_41 mo0_41 moFAM_41 mo_hwF_zs_i_toNat__41 ml_41
     refine ae5 (up_m rfl (u4 rfl s2_42)) (up_m rfl (u4 rfl s6_42)) (up_m rfl (u4 rfl s11_42)) (up_m rfl (u4 rfl s83_42)) (up_m rfl (u4 rfl s84_42)) ?_; clear s11_42 s2_42 s6_42 s83_42 s84_42; intro e_44 s2_44 s6_44 s11_44 s83_44 s84_44
     refine then_n <| aw_seq <| at_ <| ar (ro_move s11_44) rfl <| ar (ro_nilP up_h) rfl <| ar (ro_fld_el (o := 0) qfl47_2 rfl up_h) rfl <| ar (ro_eq (ro_ld_elH y85_ty40 rfl mo4_43 up_h (nle rfl) (by refine idx_mapI ?_; first | omega | (simp only [lnS]; omega))) (by simp only [pS, Value.cells, Nat.reduceAdd, jnE, beE, hwE, set_jn4, set_be, set_hw, hwF_r, hwF_set, set_iE, zsN_rho, Nat.reduceAdd] <;> rfl)) rfl ?_
     refine ar (ro_eq (ro_len_own up_h mo_hwF_zs_i_toNat__43 rfl y85_sl40.1) (by simp only [lnS] <;> rfl)) rfl ?_
     refine ar (ro_move ev_c) rfl <| ae7 (u2 rfl (u4 rfl s2_44)) (u2 rfl (u4 rfl s6_44)) (u2 rfl (u4 rfl s11_44)) (u2 rfl (u4 rfl s83_44)) (u2 rfl (u4 rfl s84_44)) (up_m rfl up_h) up_h ?_; clear s11_44 s2_44 s6_44 s83_44 s84_44; intro e_45 s2_45 s6_45 s11_45 s83_45 s84_45 s117_45 s118_45
     refine then_n <| aw_block <| aw_loop (S := (Int × List Int)) (fun s e mem => match s with | ⟨k, vs⟩ => (evA e (.tmp 118) = .v (.int .i64 k)) ∧ (evA e (.tmp 2) = evA e_45 (.tmp 2)) ∧ (evA e (.tmp 6) = evA e_45 (.tmp 6)) ∧ (evA e (.tmp 11) = evA e_45 (.tmp 11)) ∧ (evA e (.tmp 83) = evA e_45 (.tmp 83)) ∧ (evA e (.tmp 84) = evA e_45 (.tmp 84)) ∧ (evA e (.tmp 117) = evA e_45 (.tmp 117)) ∧ (mem[(hwF zs i.toNat)]? = some (.row 3 1 (vs.map iE))) ∧ (mem[4]? = m_43[4]?) ∧ (mem[3]? = m_43[3]?) ∧ (mem[2]? = m_43[2]?) ∧ (mem[(5 + l.ss.length)]? = m_43[(5 + l.ss.length)]?) ∧ (mem[1]? = m_43[1]?) ∧ (mem[0]? = m_43[0]?) ∧ (mem.length = (5 + l.ss.length) + 1) ∧ ((0 ≤ k ∧ k ≤ (l.ss.getD i.toNat default).acr.length ∧ vs = updN (fun _ x => -x) (l.ss.getD i.toNat default).acr.reverse k.toNat ∧ Fam mem (hwF zs) l.ss.length i.toNat (hwF zs i.toNat) 3 1 (acR l.js.length l.ss i.toNat) 5 (5 + l.ss.length) 4))) (fun s => match s with | ⟨k, vs⟩ => ((l.ss.getD i.toNat default).acr.length - k).toNat) ⟨_, (l.ss.getD i.toNat default).acr.reverse⟩ ⟨s118_45, rfl, rfl, rfl, rfl, rfl, rfl, mo_hwF_zs_i_toNat__43, rfl, rfl, rfl, rfl, rfl, rfl, ml_43, ?_⟩ ?_
     ·(exact ⟨by omega, by omega, rfl, moFAM_43⟩)
     ·rintro ⟨k, vs⟩ e_46 m_46 ⟨s118_46, k2_46, k6_46, k11_46, k83_46, k84_46, k117_46, mo_hwF_zs_i_toNat__46, mk4_46, mk3_46, mk2_46, mk_5_l_ss_length__46, mk1_46, mk0_46, ml_46, hinv⟩
      have s2_46 := k2_46.trans s2_45
      have s6_46 := k6_46.trans s6_45
      have s11_46 := k11_46.trans s11_45
      have s83_46 := k83_46.trans s83_45
      have s84_46 := k84_46.trans s84_45
      have s117_46 := k117_46.trans s117_45
      have mo4_46 := mk4_46.trans mo4_43
      have mo3_46 := mk3_46.trans mo3_43
      have mo2_46 := mk2_46.trans mo2_43
      have mo_5_l_ss_length__46 := mk_5_l_ss_length__46.trans mo_5_l_ss_length__43
      have mo1_46 := mk1_46.trans mo1_43
      have mo0_46 := mk0_46.trans mo0_43
      (obtain ⟨k1, k2, k3, hF4⟩ := hinv; have hvl : vs.length = (l.ss.getD i.toNat default).acr.length := (by rw [k3, updN_len, List.length_reverse]))
      refine aw_seq <| at_ <| ar (ro_lss s118_46 s117_46) rfl <| ae8 (up_m rfl s2_46) (up_m rfl s6_46) (up_m rfl s11_46) (up_m rfl s83_46) (up_m rfl s84_46) (up_m rfl s117_46) (up_m rfl s118_46) up_h ?_; clear s117_46 s118_46 s11_46 s2_46 s6_46 s83_46 s84_46; intro e_47 s2_47 s6_47 s11_47 s83_47 s84_47 s117_47 s118_47 s119_47
      refine then_n <| aw_seq <| aw_case s119_47 (fun hq_48 => ?_) (fun hq_48 => ?_)
      ·replace hq_48 := bt hq_48
       refine aw_skip <| then_n <| aw_seq <| aw_block <| aw_seq <| at_ <| ar (ro_move s118_47) rfl <| ar (ro_assign up_h) rfl <| ae8 (u2 rfl s2_47) (u2 rfl s6_47) (u2 rfl s11_47) up_h (u2 rfl s83_47) (u2 rfl s84_47) (u2 rfl s117_47) (u2 rfl s118_47) ?_; clear s117_47 s118_47 s119_47 s11_47 s2_47 s6_47 s83_47 s84_47; intro e_49 s2_49 s6_49 s11_49 s12_49 s83_49 s84_49 s117_49 s118_49
       refine then_n ?_
       have hve : vs.getD k.toNat default = (l.ss.getD i.toNat default).acr.getD ((l.ss.getD i.toNat default).acr.length - 1 - k.toNat) default := (by rw [k3, updN_ge _ _ (Nat.le_refl _), rev_get _ (by omega)]); have hvb := w4 _ (getD_mem (xs := (l.ss.getD i.toNat default).acr) (k := (l.ss.getD i.toNat default).acr.length - 1 - k.toNat) (by omega)); rw [← hve] at hvb
       refine at_ <| ar (ro_move s11_49) rfl <| ar (ro_nilP up_h) rfl <| ar (ro_fld_el (o := 0) qfl47_2 rfl up_h) rfl <| ar (ro_eq (ro_ld_elH y85_ty40 rfl mo4_46 up_h (nle rfl) (by refine idx_mapI ?_; first | omega | (simp only [lnS]; omega))) (by simp only [pS, Value.cells, Nat.reduceAdd, jnE, beE, hwE, set_jn4, set_be, set_hw, hwF_r, hwF_set, set_iE, zsN_rho, Nat.reduceAdd] <;> rfl)) rfl ?_
       refine ar (ro_move (u4 rfl s12_49)) rfl <| ar (ro_ix_own y85_sl40 mo_hwF_zs_i_toNat__46 (up_m rfl up_h) up_h (by omega) (by simp only [lnS] <;> omega)) rfl ?_
       refine ar (ro_eq (ro_ld_el y85_ty3 rfl mo_hwF_zs_i_toNat__46 up_h (nle rfl) (by first | (refine idx_map ?_; first | omega | (simp only [lnS]; omega)) | (refine idx_mapI ?_; first | omega | (simp only [lnS]; omega)) | (refine idx_mapN ?_; first | omega | (simp only [lnS]; omega)) | rfl)) (by simp only [pS, Value.cells, Nat.reduceAdd, jnE, beE, hwE, set_jn4, set_be, set_hw, hwF_r, hwF_set, set_iE, zsN_rho, Nat.reduceAdd] <;> rfl)) rfl ?_
       (refine ar (ro_mul' up_h ev_c ?_) rfl ?_; · (unfold In64; omega))
       refine ar (ro_ix_own y85_sl40 mo_hwF_zs_i_toNat__46 (u4 rfl up_h) (up_m rfl (u2 rfl up_h)) (by omega) (by simp only [lnS] <;> omega)) rfl ?_
       refine al_stm (st_store_el up_h (up_m rfl up_h) rfl rfl rfl mo_hwF_zs_i_toNat__46 (Nat.add_zero _).symm (by first | (refine idx_map ?_; first | omega | (simp only [lnS]; omega)) | (refine idx_mapI ?_; first | omega | (simp only [lnS]; omega)) | (refine idx_mapN ?_; first | omega | (simp only [lnS]; omega)) | rfl) qsz3 rfl (nle rfl)) trivial rfl (fun m_50 hm_50 => ?_)
       have mo_hwF_zs_i_toNat__50 := m_set hm_50 mo_hwF_zs_i_toNat__46
       simp only [pS, Value.cells, Nat.reduceAdd, jnE, beE, hwE, set_jn4, set_be, set_hw, hwF_r, hwF_set, set_iE, zsN_rho, Nat.reduceAdd] at mo_hwF_zs_i_toNat__50
       have mo4_50 := m_set_o hm_50 mo4_46 (by omega)
       have mo3_50 := m_set_o hm_50 mo3_46 (by omega)
       have mo2_50 := m_set_o hm_50 mo2_46 (by omega)
       have mo_5_l_ss_length__50 := m_set_o hm_50 mo_5_l_ss_length__46 (by omega)
       have mo1_50 := m_set_o hm_50 mo1_46 (by omega)
       have mo0_50 := m_set_o hm_50 mo0_46 (by omega)
       have moFAM_50 := FamR.m_set_o hm_50 hF4 (by omega)
       have ml_50 := m_set_l hm_50 ml_46
       clear hm_50 mo_hwF_zs_i_toNat__46 mo4_46 mo3_46 mo2_46 mo_5_l_ss_length__46 mo1_46 mo0_46 hF4
       refine ae7 (up_n (up_m rfl (u8 rfl s2_49))) (up_n (up_m rfl (u8 rfl s6_49))) (up_n (up_m rfl (u8 rfl s11_49))) (up_n (up_m rfl (u8 rfl s83_49))) (up_n (up_m rfl (u8 rfl s84_49))) (up_n (up_m rfl (u8 rfl s117_49))) (up_n (up_m rfl (u8 rfl s118_49))) ?_; clear s117_49 s118_49 s11_49 s12_49 s2_49 s6_49 s83_49 s84_49; intro e_51 s2_51 s6_51 s11_51 s83_51 s84_51 s117_51 s118_51
       refine block_n <| then_n <| at_ ?_
       (refine ar (ro_add' s118_51 ev_c ?_) rfl ?_; · (unfold In64; omega))
       refine ar (ro_move up_h) rfl <| ae7 (u2 rfl s2_51) (u2 rfl s6_51) (u2 rfl s11_51) (u2 rfl s83_51) (u2 rfl s84_51) (u2 rfl s117_51) up_h ?_; clear s117_51 s118_51 s11_51 s2_51 s6_51 s83_51 s84_51; intro e_52 s2_52 s6_52 s11_52 s83_52 s84_52 s117_52 s118_52
       refine then_n <| ⟨⟨_, _⟩, ⟨s118_52, (s2_52.trans s2_45.symm), (s6_52.trans s6_45.symm), (s11_52.trans s11_45.symm), (s83_52.trans s83_45.symm), (s84_52.trans s84_45.symm), (s117_52.trans s117_45.symm), mo_hwF_zs_i_toNat__50, (mo4_50.trans mo4_43.symm), (mo3_50.trans mo3_43.symm), (mo2_50.trans mo2_43.symm), (mo_5_l_ss_length__50.trans mo_5_l_ss_length__43.symm), (mo1_50.trans mo1_43.symm), (mo0_50.trans mo0_43.symm), ml_50, ?_⟩, ?_⟩
       ·(refine ⟨by omega, by omega, ?_, moFAM_50⟩; rw [show (k + 1).toNat = k.toNat + 1 by omega]; simp only [updN]; rw [← k3, Int.mul_neg, Int.mul_one])
       ·((try dsimp only); omega)
      replace hq_48 := bf hq_48
      refine aw_exit <| then_x <| then_x <| block_hit <| block_n <| then_n ?_
      have hvv : vs = (sRev l.js.length (l.ss.getD i.toNat default)).acr := (by rw [k3, show k.toNat = (l.ss.getD i.toNat default).acr.reverse.length by rw [List.length_reverse]; omega, updN_all]; rfl)
      have moFAM_53 := hF4.give (by omega) mo_hwF_zs_i_toNat__46
      refine at_ ?_
      (refine ar (ro_add' s84_47 ev_c ?_) rfl ?_; · (unfold In64; omega))
      refine ar (ro_move up_h) rfl <| ae4 (u2 rfl s2_47) (u2 rfl s6_47) (u2 rfl s83_47) up_h ?_; clear s117_47 s118_47 s119_47 s11_47 s2_47 s6_47 s83_47 s84_47; intro e_54 s2_54 s6_54 s83_54 s84_54
      refine then_n <| ⟨⟨_, _⟩, ⟨s84_54, (s2_54.trans s2_34.symm), (s6_54.trans s6_34.symm), (s83_54.trans s83_34.symm), mo4_46, (mo3_46.trans mo3_27.symm), (mo2_46.trans mo2_27.symm), (mo_5_l_ss_length__46.trans mo_5_l_ss_length__27.symm), (mo1_46.trans mo1_27.symm), (mo0_46.trans mo0_27.symm), ml_46, ?_⟩, ?_⟩
      ·(refine ⟨by omega, by omega, ?_, ?_⟩; (rw [show (i + 1).toNat = i.toNat + 1 by omega]; exact i3.next (by omega) (by rw [hyl]; exact hff)); (rw [show (i + 1).toNat = i.toNat + 1 by omega]; exact moFAM_53.congr (fun q _ => hwF_set2 _ _ _ _ q) (fun q _ _ => acR_next hvv q)))
      ·((try dsimp only); omega)
    replace hq_37 := bf hq_37
    refine aw_exit <| then_x <| then_x <| block_hit <| then_n <| aw_seq ?_
    have hit : i.toNat = l.ss.length := (by omega)
    refine aw_freezeAll (p := (fun q => 3 * q + 2)) (l.ss.length) _ _ mo4_35 hF3 (hw_own hzl) (fun a b _ _ h => by (try dsimp only at h); omega) fun m0_55 els_55 h1_55 h2_55 h3_55 h4_55 h5_55 h6_55 h7_55 => ?_
    have he_55 : els_55 = (revL l).ss.map swE := sw_done hzl (revL_ss l) h3_55 h4_55 h5_55 h7_55 (fun q hq => by rw [revL_s l hq]; exact ⟨i3.nam q hq, by rw [i3.fst q hq, if_pos (by omega)], by unfold acR; rw [if_pos (by omega)]⟩)
    subst he_55
    refine aw_fromH h2_55 (swE_ro _) (fun m_55 hm_55 => ?_)
    have mo4_55 := m_set hm_55 h2_55
    have mo3_55 := m_set_o hm_55 ((h6_55 (3) (by decide) (fun q_ hq_ he_ => by have a_ := hF3.lo q_ hq_; have b_ := hF3.hi q_ hq_; omega)).trans mo3_35) (by decide)
    have mo2_55 := m_set_o hm_55 ((h6_55 (2) (by decide) (fun q_ hq_ he_ => by have a_ := hF3.lo q_ hq_; have b_ := hF3.hi q_ hq_; omega)).trans mo2_35) (by decide)
    have mo_5_l_ss_length__55 := m_set_o hm_55 ((h6_55 ((5 + l.ss.length)) (by omega) (fun q_ hq_ he_ => by have a_ := hF3.lo q_ hq_; have b_ := hF3.hi q_ hq_; omega)).trans mo_5_l_ss_length__35) (by omega)
    have mo1_55 := m_set_o hm_55 ((h6_55 (1) (by decide) (fun q_ hq_ he_ => by have a_ := hF3.lo q_ hq_; have b_ := hF3.hi q_ hq_; omega)).trans mo1_35) (by decide)
    have mo0_55 := m_set_o hm_55 ((h6_55 (0) (by decide) (fun q_ hq_ he_ => by have a_ := hF3.lo q_ hq_; have b_ := hF3.hi q_ hq_; omega)).trans mo0_35) (by decide)
    have ml_55 := m_set_l hm_55 (h1_55.trans ml_35)
    clear hm_55 h2_55
    refine at_ <| ar (ro_eq (ro_ld_ptr y85_ty26 rfl mo_5_l_ss_length__55 s6_36 (nle rfl)) (by simp only [pS, Value.cells, Nat.reduceAdd, jnE, beE, hwE, set_jn4, set_be, set_hw, hwF_r, hwF_set, set_iE, zsN_rho, Nat.reduceAdd] <;> rfl)) rfl ?_
    refine al_stm (st_storeO (up_m rfl s2_36) up_h rfl (oneL_c rfl (oneL_o mo2_55 (oneL_o mo3_55 (oneL_o mo4_55 oneL_nil)))) mo1_55 qsz26 rfl (nle rfl)) trivial rfl (fun m_56 hm_56 => ?_)
    have mo1_56 := m_set hm_56 mo1_55
    simp only [pS, Value.cells, Nat.reduceAdd, jnE, beE, hwE, set_jn4, set_be, set_hw, hwF_r, hwF_set, set_iE, zsN_rho, Nat.reduceAdd] at mo1_56
    have mo4_56 := m_set_o hm_56 mo4_55 (by decide)
    have mo3_56 := m_set_o hm_56 mo3_55 (by decide)
    have mo2_56 := m_set_o hm_56 mo2_55 (by decide)
    have mo_5_l_ss_length__56 := m_set_o hm_56 mo_5_l_ss_length__55 (by omega)
    have mo0_56 := m_set_o hm_56 mo0_55 (by decide)
    have ml_56 := m_set_l hm_56 ml_55
    clear hm_56 mo4_55 mo3_55 mo2_55 mo_5_l_ss_length__55 mo1_55 mo0_55
    refine ar (ro_assign ev_c) rfl <| ae2 (up_m rfl (up_n (up_m rfl s2_36))) up_h ?_; clear s2_36 s6_36 s83_36 s84_36 s85_36; intro e_57 s2_57 s3_57
    refine then_n <| aw_ret <| ret2 (.inr rfl) (by kernel_rfl) (resV_cell s2_57 mo1_56 y85_ty26 (nle rfl) (by simp)) (resV_tmp s3_57) (vw_r (vw_agg (vwl_cons (.ro _ rfl) (vwl_cons (.own _ _ _ _ mo2_56) (vwl_cons (.own _ _ _ _ mo3_56) (vwl_cons (.own _ _ _ _ mo4_56) vwl_nil)))))) (.ro _ rfl) ?_
    clear s2_57 s3_57 mo1_56 mo4_56 mo3_56 mo2_56 mo_5_l_ss_length__56 mo0_56 ml_56
    (have e1 : ys = (revL l).js := (by rw [a3, show a.toNat = l.js.reverse.length by rw [List.length_reverse]; omega, updN_all]; rfl); have e2 : us = (revL l).bs := (by rw [b3, show b.toNat = l.bs.reverse.length by rw [List.length_reverse]; omega, updN_all]; rfl); rw [e1, e2]; rfl)
theorem bendN_at {js : List Jnt} {f : Int} {xs : List Int} (hf : 0 ≤ f) : ∀ n : Nat, f + n ≤ js.length → ∀ j : Nat, (bendN js f xs n).getD j default = if f ≤ j ∧ (j : Int) < f + n then (js.getD j default).at (xs.getD (j - f).toNat default) else js.getD j default
 | 0, _, j => by rw [if_neg (by omega)]; rfl
 | n + 1, hn, j => by
  have ih := bendN_at (js := js) (xs := xs) hf n (by omega)
  have hl := bendN_len js f xs n
  simp only [bendN]
  by_cases hp : (f + n).toNat = j
  ·subst hp
   rw [List.getD_eq_getElem?_getD, List.getElem?_set_self (by omega), if_pos (by omega), ih _, if_neg (by omega)]
   show Jnt.at _ _ = Jnt.at _ _
   rw [show (((f + n).toNat : Nat) : Int) - f = n by omega]; rfl
  ·rw [List.getD_eq_getElem?_getD, List.getElem?_set_ne hp, ← List.getD_eq_getElem?_getD, ih j]
   by_cases c : f ≤ j ∧ (j : Int) < f + n
   ·rw [if_pos c, if_pos (by omega)]
   ·rw [if_neg c, if_neg (by omega)]
structure Fit1 (l : Lin) (t : Swi) : Prop where
 f1 : 1 ≤ t.fst
 n1 : 1 ≤ t.acr.length
 in_ : t.fst + t.acr.length ≤ l.bs.length
theorem fit_of {l : Lin} (h : Rgt l) {i : Nat} (hi : i < l.ss.length) : Fit1 l (l.ss.getD i default) := by
 obtain ⟨a, b, c, _⟩ := h.swi hi; exact ⟨a, b, c⟩
theorem bra_at {l : Lin} (h : Rgt l) {t : Swi} (ht : Fit1 l t) (j : Nat) : (braL l t).js.getD j default = if t.fst ≤ j ∧ (j : Int) < t.fst + t.acr.length then (l.js.getD j default).at (t.acr.getD (j - t.fst).toNat default) else l.js.getD j default :=
 bendN_at (by have := ht.f1; omega) _ (by have := ht.in_; have := h.js; omega) j
theorem bra_up {l : Lin} (h : Rgt l) {t : Swi} (ht : Fit1 l t) (j : Nat) : ((braL l t).js.getD j default).up = (l.js.getD j default).up := by
 rw [bra_at h ht]; split <;> rfl
theorem bra_out {l : Lin} (h : Rgt l) {t : Swi} (ht : Fit1 l t) {j : Nat} (hj : (j : Int) < t.fst ∨ t.fst + t.acr.length ≤ j) : (braL l t).js.getD j default = l.js.getD j default := by
 rw [bra_at h ht, if_neg (by omega)]
theorem bra_len (l : Lin) (t : Swi) : (braL l t).js.length = l.js.length := bendN_len _ _ _ _
theorem find_first {p : Swi → Bool} {ss : List Swi} {i : Nat} (hi : i < ss.length) (hp : p (ss.getD i default) = true) (hn : (ss.take i).any p = false) : ss.find? p = some (ss.getD i default) := by
 have h0 : (ss.take i).find? p = none := by
  rw [List.find?_eq_none]
  intro x hx hpx
  have := List.any_eq_false.1 hn x hx
  exact this hpx
 have e := find_hit (p := p) (ss := ss) (i := (i : Int)) (by omega) (by omega) (by rw [Int.toNat_natCast]; exact h0) (by rw [Int.toNat_natCast]; exact hp)
 rw [Int.toNat_natCast] at e; exact e
theorem brF_self {l : Lin} (h : Rgt l) {i : Nat} (hi : i < l.ss.length) : brF l (l.ss.getD i default).nam = some (l.ss.getD i default) := by
 have h0 := swOk_iff.1 (h.sa i hi)
 exact find_first hi (by simp [nmB]) h0.new
theorem brF_rev {l : Lin} (nm : ByteArray) : brF (revL l) nm = (brF l nm).map (sRev l.js.length) := by
 unfold brF revL
 rw [List.find?_map]; rfl
theorem lin_ext {a b : Lin} (h1 : a.nam = b.nam) (h2 : a.js = b.js) (h3 : a.bs = b.bs) (h4 : a.ss = b.ss) : a = b := by
 cases a; cases b; cases h1; cases h2; cases h3; cases h4; rfl
theorem js_ext {a b : List Jnt} (hl : a.length = b.length) (h : ∀ j : Nat, j < a.length → a.getD j default = b.getD j default) : a = b := by
 apply List.ext_getElem hl
 intro j h1 h2
 have := h j h1
 rw [List.getD_eq_getElem?_getD, List.getElem?_eq_getElem h1, List.getD_eq_getElem?_getD, List.getElem?_eq_getElem h2] at this
 exact this
theorem fit_rev {l : Lin} (h : Rgt l) {t : Swi} (ht : Fit1 l t) : Fit1 (revL l) (sRev l.js.length t) := by
 have hjs := h.js
 have a := ht.f1
 have b := ht.n1
 have c := ht.in_
 refine ⟨?_, ?_, ?_⟩
 ·simp only [sRev]; omega
 ·simp only [sRev, List.length_map, List.length_reverse]; exact b
 ·rw [revL_bs]; simp only [sRev, List.length_map, List.length_reverse]; omega
theorem bra_rev {l : Lin} (h : Rgt l) {t : Swi} (ht : Fit1 l t) : braL (revL l) (sRev l.js.length t) = revL (braL l t) := by
 have hjs := h.js
 have a := ht.f1
 have b := ht.n1
 have c := ht.in_
 refine lin_ext rfl (js_ext ?_ fun j hj => ?_) rfl rfl
 ·rw [bra_len, revL_js, revL_js, bra_len]
 ·rw [bra_len, revL_js] at hj
  rw [bra_at (revL_rgt h) (fit_rev h ht), revL_j l hj, revL_j (braL l t) (by rw [bra_len]; exact hj), bra_len, bra_at h ht]
  simp only [sRev, List.length_map, List.length_reverse]
  by_cases hc : t.fst ≤ ((l.js.length - 1 - j : Nat) : Int) ∧ ((l.js.length - 1 - j : Nat) : Int) < t.fst + t.acr.length
  ·rw [if_pos hc, if_pos (by omega), map_at (fun x => -x) t.acr.reverse (by rw [List.length_reverse]; omega)]
   have e : t.acr.reverse.getD ((j : Int) - ((l.js.length : Int) - t.fst - t.acr.length)).toNat default = t.acr.getD (((l.js.length - 1 - j : Nat) : Int) - t.fst).toNat default := by
    rw [List.getD_eq_getElem?_getD, List.getElem?_reverse (by omega), ← List.getD_eq_getElem?_getD]
    congr 1; omega
   rw [e]; rfl
  ·rw [if_neg hc, if_neg (by omega)]
theorem betN_z (f t t2 L : Int) : betN f t 0 L = betN f t2 0 L := by simp [betN]
theorem betN_l (f f2 t L : Int) : betN f t L L = betN f2 t L L := by simp [betN]
theorem bra_across {l : Lin} (h : Rgt l) {t : Swi} (ht : Fit1 l t) {p : Int} (hp : 0 ≤ p ∧ p ≤ plaP l.bs l.bs.length) (ho : p ≤ plaP l.bs (t.fst - 1).toNat ∨ plaP l.bs (t.fst + t.acr.length).toNat ≤ p) :
 betA ((braL l t).js.getD (atI l p) default).acr ((braL l t).js.getD (atI l p + 1) default).acr (atD l p) (l.bs.getD (atI l p) default).len = betA (l.js.getD (atI l p) default).acr (l.js.getD (atI l p + 1) default).acr (atD l p) (l.bs.getD (atI l p) default).len := by
 have hjs := h.js
 have a := ht.f1
 have b := ht.n1
 have c := ht.in_
 obtain ⟨q1, q2, q3⟩ := at_bd h hp
 obtain ⟨s1, s2, s3⟩ := beaN_at (bs := l.bs) (p := p) hp.1 (n := l.bs.length) h.n0
 change atI l p < _ at s1
 change plaP l.bs (atI l p) ≤ p at s2
 have hD : atD l p = p - plaP l.bs (atI l p) := rfl
 generalize hi : atI l p = i at *
 have hnx : plaP l.bs (i + 1) = plaP l.bs i + (l.bs.getD i default).len := rfl
 have hlen := h.bea i q1
 unfold betA
 have key : betN ((braL l t).js.getD i default).acr ((braL l t).js.getD (i + 1) default).acr (atD l p) (l.bs.getD i default).len = betN (l.js.getD i default).acr (l.js.getD (i + 1) default).acr (atD l p) (l.bs.getD i default).len := by
  rcases ho with ho | ho
  ·by_cases c1 : i + 1 ≤ (t.fst - 1).toNat
   ·rw [bra_out h ht (j := i) (by omega), bra_out h ht (j := i + 1) (by omega)]
   ·have m := h.mono (i := (t.fst - 1).toNat) (j := i) (by omega) (by omega)
    have e0 : i = (t.fst - 1).toNat := by omega
    have e1 : atD l p = 0 := by rw [hD, e0]; rw [← e0]; rw [← e0] at ho; omega
    rw [e1, bra_out h ht (j := i) (by omega)]
    exact betN_z _ _ _ _
  ·by_cases c1 : (t.fst + t.acr.length).toNat ≤ i
   ·rw [bra_out h ht (j := i) (by omega), bra_out h ht (j := i + 1) (by omega)]
   ·have m := h.mono (i := i + 1) (j := (t.fst + t.acr.length).toNat) (by omega) (by omega)
    have e0 : i + 1 = (t.fst + t.acr.length).toNat := by omega
    have e1 : atD l p = (l.bs.getD i default).len := by rw [hD]; rw [← e0] at ho; omega
    rw [e1, bra_out h ht (j := i + 1) (by omega)]
    exact betN_l _ _ _ _
 rw [key]
theorem bra_lim {l : Lin} (h : Rgt l) {t : Swi} (ht : Fit1 l t) {s : Int} {j : Nat} (hj : 1 ≤ j ∧ j + 2 ≤ l.js.length) (ho : (j : Int) < t.fst - 1 ∨ t.fst + t.acr.length < j) : limV (braL l t) s j = limV l s j := by
 have e1 := bra_out h ht (j := j - 1) (by omega)
 have e2 := bra_out h ht (j := j) (by omega)
 have e3 := bra_out h ht (j := j + 1) (by omega)
 have eb : benN (braL l t) j = benN l j := by
  unfold benN; rw [e1, e2, e3]; rfl
 unfold limV limU helV
 rw [eb]; rfl
theorem y89_bz60 : (Try.prog.info? 60).bind (·.zero) = some (.agg #[.int .i64 0, .int .i64 0]) := by kernel_rfl
theorem y89_bu60 : Try.prog.underlying 60 = some (.array 2 3) := by kernel_rfl
theorem y89_bp60 : (Try.prog.info? 3).map (·.size) = some 1 := by kernel_rfl
theorem y89_bz59 : (Try.prog.info? 59).bind (·.zero) = some (.agg #[.int .i64 0, .int .i64 0, .int .i64 0]) := by kernel_rfl
theorem y89_bu59 : Try.prog.underlying 59 = some (.struct (fsOf Try.prog 59)) := by kernel_rfl
theorem y89_bp59 : ∀ w, ((fsOf Try.prog 59).mapM fun f => Prod.mk f.offset <$> sizeOf f.type : Sem (Array (Nat × Nat))).run Try.prog w = .ok (#[(0, 1), (1, 1), (2, 1)]) w := fun _ => by kernel_rfl
theorem y89_hcf10 : ∀ args w, (callFunc 10 args).run Try.prog w = .ok (.enter 10 args) w := fun _ _ => by kernel_rfl
theorem y89_hcf14 : ∀ args w, (callFunc 14 args).run Try.prog w = .ok (.enter 14 args) w := fun _ _ => by kernel_rfl
theorem y89_hcf15 : ∀ args w, (callFunc 15 args).run Try.prog w = .ok (.enter 15 args) w := fun _ _ => by kernel_rfl
theorem y89_hcf17 : ∀ args w, (callFunc 17 args).run Try.prog w = .ok (.enter 17 args) w := fun _ _ => by kernel_rfl
theorem y89_hcf18 : ∀ args w, (callFunc 18 args).run Try.prog w = .ok (.enter 18 args) w := fun _ _ => by kernel_rfl
theorem y89_hcf19 : ∀ args w, (callFunc 19 args).run Try.prog w = .ok (.enter 19 args) w := fun _ _ => by kernel_rfl
theorem y89_hcf21 : ∀ args w, (callFunc 21 args).run Try.prog w = .ok (.enter 21 args) w := fun _ _ => by kernel_rfl
theorem y89_hcf23 : ∀ args w, (callFunc 23 args).run Try.prog w = .ok (.enter 23 args) w := fun _ _ => by kernel_rfl
theorem y89_hcf24 : ∀ args w, (callFunc 24 args).run Try.prog w = .ok (.enter 24 args) w := fun _ _ => by kernel_rfl
theorem y89_hcf25 : ∀ args w, (callFunc 25 args).run Try.prog w = .ok (.enter 25 args) w := fun _ _ => by kernel_rfl
theorem y89_hcf6 : ∀ args w, (callFunc 6 args).run Try.prog w = .ok (.enter 6 args) w := fun _ _ => by kernel_rfl
theorem y89_hcf7 : ∀ args w, (callFunc 7 args).run Try.prog w = .ok (.enter 7 args) w := fun _ _ => by kernel_rfl
theorem y89_hcf8 : ∀ args w, (callFunc 8 args).run Try.prog w = .ok (.enter 8 args) w := fun _ _ => by kernel_rfl
theorem y89_hcf9 : ∀ args w, (callFunc 9 args).run Try.prog w = .ok (.enter 9 args) w := fun _ _ => by kernel_rfl
theorem y89_sl22 : SlIs Try.prog 22 66 4 32 (.agg #[.int .i64 0, .int .i64 0, .int .i64 0, .int .i64 0]) := ⟨by kernel_rfl, by kernel_rfl, by kernel_rfl⟩
theorem y89_sl24 : SlIs Try.prog 24 47 3 48 (.agg #[.string ByteArray.empty, .int .i64 0, .slice none 0 0]) := ⟨by kernel_rfl, by kernel_rfl, by kernel_rfl⟩
theorem y89_sl40 : SlIs Try.prog 40 3 1 8 (.int .i64 0) := ⟨by kernel_rfl, by kernel_rfl, by kernel_rfl⟩
theorem y89_gq36 : Try.prog.eqGuardType Try.prog.depth 36 = false := by kernel_rfl
theorem y89_sq36 {a0 b0 : Int} {a1 b1 : Int} : EqV Try.prog 2 36 (.agg #[.int .i64 a0, .int .i64 a1]) (.agg #[.int .i64 b0, .int .i64 b1]) (decide (a0 = b0) && (decide (a1 = b1) && true)) := (eqs_struct [(3, 0), (3, 1)] (by kernel_rfl) (by kernel_rfl) (by kernel_rfl) (by kernel_rfl) (.cons (fun _ => by kernel_rfl) (fun _ => by kernel_rfl) (eqv_int (k := .i64) (k' := .i64) (by kernel_rfl) a0 b0) (.cons (fun _ => by kernel_rfl) (fun _ => by kernel_rfl) (eqv_int (k := .i64) (k' := .i64) (by kernel_rfl) a1 b1) .nil)))
theorem y89_ty22 : TyIs Try.prog 22 false 1 := ⟨by kernel_rfl, by kernel_rfl⟩
theorem y89_ty24 : TyIs Try.prog 24 false 1 := ⟨by kernel_rfl, by kernel_rfl⟩
theorem y89_ty26 : TyIs Try.prog 26 true 4 := ⟨by kernel_rfl, by kernel_rfl⟩
theorem y89_ty3 : TyIs Try.prog 3 false 1 := ⟨by kernel_rfl, by kernel_rfl⟩
theorem y89_ty36 : TyIs Try.prog 36 true 2 := ⟨by kernel_rfl, by kernel_rfl⟩
theorem y89_ty40 : TyIs Try.prog 40 false 1 := ⟨by kernel_rfl, by kernel_rfl⟩
theorem y89_ty47 : TyIs Try.prog 47 true 3 := ⟨by kernel_rfl, by kernel_rfl⟩
theorem y89_ty55 : TyIs Try.prog 55 true 2 := ⟨by kernel_rfl, by kernel_rfl⟩
theorem y89_ty9 : TyIs Try.prog 9 false 1 := ⟨by kernel_rfl, by kernel_rfl⟩
set_option maxRecDepth 100000 in
set_option maxHeartbeats 4000000 in
theorem lAwake_ok : FnOk Try.prog 15 [] (fun q => q = tbA true) := by
 refine fnOk_of (fn := Try.f15) 32 (by kernel_rfl) rfl (by kernel_rfl) (Nat.le_of_ble_eq_true rfl) ?_
 intro e_0 m_0 hA hm_0
 have ml_0 : m_0.length = 0 := by rw [hm_0]; rfl
 clear hA hm_0
 refine aw_seq <| at_ <| ar (ro_assign ev_c) rfl <| ae0 ?_; intro e_1
 refine then_n <| aw_seq <| at_ <| ar (ro_call evL_nil rfl (lin0_ok) y89_hcf23) rfl <| ar (ro_call (evL_cons up_h (evL_cons ev_c (evL_cons ev_c evL_nil))) rfl (lim0_ok) y89_hcf24) rfl <| ar (ro_move up_h) rfl <| ar (ro_extract up_h rfl) rfl <| ar (ro_extract (up_m rfl up_h) rfl) rfl <| ar (ro_assign (up_m rfl up_h)) rfl <| ar (ro_assign (up_m rfl up_h)) rfl <| ae2 (up_m rfl up_h) up_h ?_; intro e_2 s1_2 s2_2
 refine then_n <| aw_seq <| at_ <| ar (ro_call evL_nil rfl (lin0_ok) y89_hcf23) rfl <| ar (ro_build (evP_cons ev_c (evP_cons ev_c (evP_cons ev_c evP_nil))) y89_bz59 y89_bu59 y89_bp59 rfl) rfl ?_
 refine ar (ro_buildA (evP_cons ev_c (evP_cons ev_c evP_nil)) y89_bz60 y89_bu60 y89_bp60 rfl) rfl ?_
 refine ar (ro_call (evL_cons (u2 rfl up_h) (evL_cons (up_m rfl up_h) (evL_cons up_h evL_nil))) rfl (dev0_ok) y89_hcf25) rfl <| ar (ro_move up_h) rfl <| ar (ro_extract up_h rfl) rfl <| ar (ro_extract (up_m rfl up_h) rfl) rfl <| al_stm (st_alloc qaz55 rfl ml_0) trivial rfl (fun m_3 hm_3 => ?_)
 have mo0_3 := m_push hm_3 ml_0
 simp only [pS, Value.cells, Nat.reduceAdd] at mo0_3
 have ml_3 := m_push_l hm_3 ml_0
 have ml_3 : _ = 1 := ml_3
 clear hm_3
 refine al_stm (st_store up_h (u2 rfl up_h) rfl rfl mo0_3 qsz55 rfl (nle rfl)) trivial rfl (fun m_4 hm_4 => ?_)
 have mo0_4 := m_set hm_4 mo0_3
 simp only [pS, Value.cells, Nat.reduceAdd] at mo0_4
 have ml_4 := m_set_l hm_4 ml_3
 clear hm_4 mo0_3
 refine ar (ro_assign (up_n (up_m rfl up_h))) rfl <| ae4 (up_m rfl (up_n (u8 rfl s1_2))) (up_m rfl (up_n (u8 rfl s2_2))) (up_m rfl (up_n up_h)) up_h ?_; clear s1_2 s2_2; intro e_5 s1_5 s2_5 s3_5 s4_5
 refine then_n <| aw_seq <| at_ <| ar (ro_move s2_5) rfl <| ar (ro_eql up_h ev_c) rfl ?_
 refine ar (ro_move up_h) rfl <| al_case up_h (fun hb_6 hq_6 => ?_) (fun hb_6 hq_6 => ?_)
 ·replace hq_6 := bt hq_6
  refine al_ro' (ro_move (up_m rfl (u2 rfl s1_5))) ⟨_, rfl, hb_6⟩ rfl ?_
  refine al_ro' (ro_eql up_h ev_c) ⟨_, rfl, (up_m rfl hb_6)⟩ rfl ?_
  refine ar (ro_pickT (u2 rfl hb_6) up_h) rfl <| ar (ro_move up_h) rfl <| al_case up_h (fun hb_7 hq_7 => ?_) (fun hb_7 hq_7 => ?_)
  ·replace hq_7 := bt hq_7
   refine al_ro' (ro_move (up_m rfl (u2 rfl (u4 rfl s4_5)))) ⟨_, rfl, hb_7⟩ rfl ?_
   refine al_ro' (ro_eql up_h ev_c) ⟨_, rfl, (up_m rfl hb_7)⟩ rfl ?_
   refine ar (ro_pickT (u2 rfl hb_7) up_h) rfl <| ar (ro_move up_h) rfl <| al_case up_h (fun hb_8 hq_8 => ?_) (fun hb_8 hq_8 => ?_)
   ·replace hq_8 := bt hq_8
    refine al_ro' (ro_eq (ro_ld_ptr y89_ty55 rfl mo0_4 (up_m rfl (u2 rfl (u8 rfl s3_5))) (nle rfl)) (by simp only [pS, Value.cells, Nat.reduceAdd] <;> rfl)) ⟨_, rfl, hb_8⟩ rfl ?_
    refine al_ro' (ro_build (evP_cons ev_c (evP_cons ev_c evP_nil)) qbz55 qbu55 qbp55 rfl) ⟨_, rfl, (up_m rfl hb_8)⟩ rfl ?_
    refine al_ro' (ro_aeql (up_m rfl up_h) up_h (xs := [.int .i64 (-38), .int .i64 (-37)]) (ys := [.int .i64 (-38), .int .i64 (-37)]) (b := true) ⟨rfl, by kernel_rfl, fun _ => by kernel_rfl⟩) ⟨_, rfl, (u2 rfl hb_8)⟩ rfl ?_
    refine ar (ro_pickT (up_m rfl (u2 rfl hb_8)) up_h) rfl <| ar (ro_assign up_h) rfl <| ae1 up_h ?_; clear hb_6 hb_7 hb_8 s1_5 s2_5 s3_5 s4_5; intro e_9 s0_9
    refine then_n <| aw_ret <| ret1 (.inr rfl) (by kernel_rfl) (resV_tmp s0_9) (.ro _ rfl) ?_
    clear s0_9 mo0_4 ml_4
    rfl
   ·replace hq_8 := bf hq_8; exfalso; omega
  ·replace hq_7 := bf hq_7; exfalso; omega
 ·replace hq_6 := bf hq_6; exfalso; omega
set_option maxRecDepth 100000 in
set_option maxHeartbeats 4000000 in
theorem topLineBranches_many (l : Lin) (hf : fewL l = false) (n p : Int) : FnOk Try.prog 4 [lnA l, mA n, mA p] (fun q => q = tbA true) := by
 refine fnOk_of (fn := Try.f4) 249 (by kernel_rfl) rfl (by kernel_rfl) (Nat.le_of_ble_eq_true rfl) ?_
 intro e_0 m_0 hA hm_0
 have s0_0 : evA e_0 (.tmp 0) = _ := hA 0 _ rfl
 have s1_0 : evA e_0 (.tmp 1) = _ := hA 1 _ rfl
 have s2_0 : evA e_0 (.tmp 2) = _ := hA 2 _ rfl
 have ml_0 : m_0.length = 0 := by rw [hm_0]; rfl
 clear hA hm_0
 refine aw_seq <| at_ <| al_stm (st_box s0_0 rfl ml_0) trivial rfl (fun m_1 hm_1 => ?_)
 have mo0_1 := m_push hm_1 ml_0
 have ml_1 := m_push_l hm_1 ml_0
 have ml_1 : _ = 1 := ml_1
 clear hm_1
 refine ar (ro_assign ev_c) rfl <| ae3 (u2 rfl s1_0) (u2 rfl s2_0) (up_m rfl up_h) ?_; clear s0_0 s1_0 s2_0; intro e_2 s1_2 s2_2 s3_2
 refine then_n <| aw_seq <| aw_seq <| at_ <| ar (ro_call evL_nil rfl (lAwake_ok) y89_hcf15) rfl <| ar (ro_not up_h) rfl <| ae4 (u2 rfl s1_2) (u2 rfl s2_2) (u2 rfl s3_2) up_h ?_; clear s1_2 s2_2 s3_2; intro e_3 s1_3 s2_3 s3_3 s31_3
 refine then_n <| aw_case s31_3 (fun hq_4 => ?_) (fun hq_4 => ?_)
 ·cases hq_4
 replace hq_4 := bf' hq_4
 refine aw_skip <| then_n <| aw_seq <| aw_seq <| at_ <| ar (ro_eq (ro_ld_ptr y89_ty26 rfl mo0_1 s3_3 (nle rfl)) (by simp only [pS, Value.cells, Nat.reduceAdd] <;> rfl)) rfl ?_
 refine ar (ro_call (evL_cons up_h evL_nil) rfl ((fewL_ok l).mono (fun q h => show q = tbA false from h.trans (by rw [hf]))) y89_hcf6) rfl ?_
 refine ar (ro_not up_h) rfl <| ar (ro_move up_h) rfl <| al_case up_h (fun hb_5 hq_5 => ?_) (fun hb_5 hq_5 => ?_)
 ·replace hq_5 := bt' hq_5
  refine al_skip' ⟨_, rfl, .inl hb_5⟩ rfl ?_
  refine al_skip' ⟨_, rfl, .inl (up_m rfl hb_5)⟩ rfl ?_
  refine al_skip' ⟨_, rfl, .inl (u2 rfl hb_5)⟩ rfl ?_
  refine ar (ro_pickT (up_m rfl (u2 rfl hb_5)) ev_c) rfl <| ar (ro_move up_h) rfl <| al_skip' ⟨_, rfl, .inl up_h⟩ rfl ?_
  refine al_skip' ⟨_, rfl, .inl (up_m rfl up_h)⟩ rfl ?_
  refine al_skip' ⟨_, rfl, .inl (u2 rfl up_h)⟩ rfl ?_
  refine al_skip' ⟨_, rfl, .inl (up_m rfl (u2 rfl up_h))⟩ rfl ?_
  refine al_skip' ⟨_, rfl, .inl (u4 rfl up_h)⟩ rfl ?_
  refine al_skip' ⟨_, rfl, .inl (up_m rfl (u4 rfl up_h))⟩ rfl ?_
  refine al_skip' ⟨_, rfl, .inl (u2 rfl (u4 rfl up_h))⟩ rfl ?_
  refine ar (ro_pickT (up_m rfl (u2 rfl (u4 rfl up_h))) ev_c) rfl <| ar (ro_move up_h) rfl <| al_skip' ⟨_, rfl, .inl up_h⟩ rfl ?_
  refine al_skip' ⟨_, rfl, .inl (up_m rfl up_h)⟩ rfl ?_
  refine al_skip' ⟨_, rfl, .inl (u2 rfl up_h)⟩ rfl ?_
  refine al_skip' ⟨_, rfl, .inl (up_m rfl (u2 rfl up_h))⟩ rfl ?_
  refine ar (ro_pickT (u4 rfl up_h) ev_c) rfl <| ae4 (up_m rfl (u2 rfl (u4 rfl (u16 rfl s1_3)))) (up_m rfl (u2 rfl (u4 rfl (u16 rfl s2_3)))) (up_m rfl (u2 rfl (u4 rfl (u16 rfl s3_3)))) up_h ?_; clear hb_5 s1_3 s2_3 s31_3 s3_3; intro e_6 s1_6 s2_6 s3_6 s54_6
  refine then_n <| aw_true s54_6 <| aw_seq <| at_ <| ar (ro_assign ev_c) rfl <| ae1 up_h ?_; clear s1_6 s2_6 s3_6 s54_6; intro e_8 s6_8
  refine then_n <| aw_ret <| then_r <| ret1 (.inr rfl) (by kernel_rfl) (resV_tmp s6_8) (.ro _ rfl) ?_
  clear s6_8 mo0_1 ml_1
  first | rfl | (simp_all; done)
 ·cases hq_5
set_option maxRecDepth 100000 in
set_option maxHeartbeats 4000000 in
theorem topLineBranches_bad (l : Lin) (hf : fewL l = true) (hb : (linM l).2 ≠ 0) (n p : Int) : FnOk Try.prog 4 [lnA l, mA n, mA p] (fun q => q = tbA true) := by
 refine fnOk_of (fn := Try.f4) 249 (by kernel_rfl) rfl (by kernel_rfl) (Nat.le_of_ble_eq_true rfl) ?_
 intro e_0 m_0 hA hm_0
 have s0_0 : evA e_0 (.tmp 0) = _ := hA 0 _ rfl
 have s1_0 : evA e_0 (.tmp 1) = _ := hA 1 _ rfl
 have s2_0 : evA e_0 (.tmp 2) = _ := hA 2 _ rfl
 have ml_0 : m_0.length = 0 := by rw [hm_0]; rfl
 clear hA hm_0
 refine aw_seq <| at_ <| al_stm (st_box s0_0 rfl ml_0) trivial rfl (fun m_1 hm_1 => ?_)
 have mo0_1 := m_push hm_1 ml_0
 have ml_1 := m_push_l hm_1 ml_0
 have ml_1 : _ = 1 := ml_1
 clear hm_1
 refine ar (ro_assign ev_c) rfl <| ae3 (u2 rfl s1_0) (u2 rfl s2_0) (up_m rfl up_h) ?_; clear s0_0 s1_0 s2_0; intro e_2 s1_2 s2_2 s3_2
 refine then_n <| aw_seq <| aw_seq <| at_ <| ar (ro_call evL_nil rfl (lAwake_ok) y89_hcf15) rfl <| ar (ro_not up_h) rfl <| ae4 (u2 rfl s1_2) (u2 rfl s2_2) (u2 rfl s3_2) up_h ?_; clear s1_2 s2_2 s3_2; intro e_3 s1_3 s2_3 s3_3 s31_3
 refine then_n <| aw_case s31_3 (fun hq_4 => ?_) (fun hq_4 => ?_)
 ·cases hq_4
 replace hq_4 := bf' hq_4
 refine aw_skip <| then_n <| aw_seq <| aw_seq <| at_ <| ar (ro_eq (ro_ld_ptr y89_ty26 rfl mo0_1 s3_3 (nle rfl)) (by simp only [pS, Value.cells, Nat.reduceAdd] <;> rfl)) rfl ?_
 refine ar (ro_call (evL_cons up_h evL_nil) rfl ((fewL_ok l).mono (fun q h => show q = tbA true from h.trans (by rw [hf]))) y89_hcf6) rfl ?_
 refine ar (ro_not up_h) rfl <| ar (ro_move up_h) rfl <| al_case up_h (fun hb_5 hq_5 => ?_) (fun hb_5 hq_5 => ?_)
 ·cases hq_5
 replace hq_5 := bf' hq_5
 refine al_ro' (ro_eq (ro_ld_ptr y89_ty26 rfl mo0_1 (u4 rfl s3_3) (nle rfl)) (by simp only [pS, Value.cells, Nat.reduceAdd] <;> rfl)) ⟨_, rfl, hb_5⟩ rfl ?_
 refine al_ro' (ro_call (evL_cons up_h evL_nil) rfl (lineErr_ok l (fewL_sho hf)) y89_hcf9) ⟨_, rfl, (up_m rfl hb_5)⟩ rfl ?_
 refine al_ro' (ro_neq up_h ev_c) ⟨_, rfl, (u2 rfl hb_5)⟩ rfl ?_
 refine ar (ro_pickF (up_m rfl (u2 rfl hb_5)) up_h) rfl <| ar (ro_move up_h) rfl <| al_case up_h (fun hb_9 hq_9 => ?_) (fun hb_9 hq_9 => ?_)
 ·replace hq_9 := bnt hq_9
  refine al_skip' ⟨_, rfl, .inl hb_9⟩ rfl ?_
  refine al_skip' ⟨_, rfl, .inl (up_m rfl hb_9)⟩ rfl ?_
  refine al_skip' ⟨_, rfl, .inl (u2 rfl hb_9)⟩ rfl ?_
  refine al_skip' ⟨_, rfl, .inl (up_m rfl (u2 rfl hb_9))⟩ rfl ?_
  refine al_skip' ⟨_, rfl, .inl (u4 rfl hb_9)⟩ rfl ?_
  refine al_skip' ⟨_, rfl, .inl (up_m rfl (u4 rfl hb_9))⟩ rfl ?_
  refine al_skip' ⟨_, rfl, .inl (u2 rfl (u4 rfl hb_9))⟩ rfl ?_
  refine ar (ro_pickT (up_m rfl (u2 rfl (u4 rfl hb_9))) ev_c) rfl <| ar (ro_move up_h) rfl <| al_skip' ⟨_, rfl, .inl up_h⟩ rfl ?_
  refine al_skip' ⟨_, rfl, .inl (up_m rfl up_h)⟩ rfl ?_
  refine al_skip' ⟨_, rfl, .inl (u2 rfl up_h)⟩ rfl ?_
  refine al_skip' ⟨_, rfl, .inl (up_m rfl (u2 rfl up_h))⟩ rfl ?_
  refine ar (ro_pickT (u4 rfl up_h) ev_c) rfl <| ae4 (up_m rfl (u2 rfl (u4 rfl (u16 rfl s1_3)))) (up_m rfl (u2 rfl (u4 rfl (u16 rfl s2_3)))) (up_m rfl (u2 rfl (u4 rfl (u16 rfl s3_3)))) up_h ?_; clear hb_5 hb_9 s1_3 s2_3 s31_3 s3_3; intro e_10 s1_10 s2_10 s3_10 s54_10
  refine then_n <| aw_true s54_10 <| aw_seq <| at_ <| ar (ro_assign ev_c) rfl <| ae1 up_h ?_; clear s1_10 s2_10 s3_10 s54_10; intro e_12 s6_12
  refine then_n <| aw_ret <| then_r <| ret1 (.inr rfl) (by kernel_rfl) (resV_tmp s6_12) (.ro _ rfl) ?_
  clear s6_12 mo0_1 ml_1
  first | rfl | (simp_all; done)
 ·replace hq_9 := bnf hq_9; exfalso; omega
set_option maxRecDepth 100000 in
set_option maxHeartbeats 4000000 in
theorem topLineBranches_out (l : Lin) (hf : fewL l = true) (hg : (linM l).2 = 0) (n p : Int) (hw : withinB n 0 (l.ss.length - 1) = false) : FnOk Try.prog 4 [lnA l, mA n, mA p] (fun q => q = tbA true) := by
 refine fnOk_of (fn := Try.f4) 249 (by kernel_rfl) rfl (by kernel_rfl) (Nat.le_of_ble_eq_true rfl) ?_
 intro e_0 m_0 hA hm_0
 have s0_0 : evA e_0 (.tmp 0) = _ := hA 0 _ rfl
 have s1_0 : evA e_0 (.tmp 1) = _ := hA 1 _ rfl
 have s2_0 : evA e_0 (.tmp 2) = _ := hA 2 _ rfl
 have ml_0 : m_0.length = 0 := by rw [hm_0]; rfl
 clear hA hm_0
 have hl := fewL_sho hf; have hsl := hl.2.2.2.1
 refine aw_seq <| at_ <| al_stm (st_box s0_0 rfl ml_0) trivial rfl (fun m_1 hm_1 => ?_)
 have mo0_1 := m_push hm_1 ml_0
 have ml_1 := m_push_l hm_1 ml_0
 have ml_1 : _ = 1 := ml_1
 clear hm_1
 refine ar (ro_assign ev_c) rfl <| ae3 (u2 rfl s1_0) (u2 rfl s2_0) (up_m rfl up_h) ?_; clear s0_0 s1_0 s2_0; intro e_2 s1_2 s2_2 s3_2
 refine then_n <| aw_seq <| aw_seq <| at_ <| ar (ro_call evL_nil rfl (lAwake_ok) y89_hcf15) rfl <| ar (ro_not up_h) rfl <| ae4 (u2 rfl s1_2) (u2 rfl s2_2) (u2 rfl s3_2) up_h ?_; clear s1_2 s2_2 s3_2; intro e_3 s1_3 s2_3 s3_3 s31_3
 refine then_n <| aw_case s31_3 (fun hq_4 => ?_) (fun hq_4 => ?_)
 ·cases hq_4
 replace hq_4 := bf' hq_4
 refine aw_skip <| then_n <| aw_seq <| aw_seq <| at_ <| ar (ro_eq (ro_ld_ptr y89_ty26 rfl mo0_1 s3_3 (nle rfl)) (by simp only [pS, Value.cells, Nat.reduceAdd] <;> rfl)) rfl ?_
 refine ar (ro_call (evL_cons up_h evL_nil) rfl ((fewL_ok l).mono (fun q h => show q = tbA true from h.trans (by rw [hf]))) y89_hcf6) rfl ?_
 refine ar (ro_not up_h) rfl <| ar (ro_move up_h) rfl <| al_case up_h (fun hb_5 hq_5 => ?_) (fun hb_5 hq_5 => ?_)
 ·cases hq_5
 replace hq_5 := bf' hq_5
 refine al_ro' (ro_eq (ro_ld_ptr y89_ty26 rfl mo0_1 (u4 rfl s3_3) (nle rfl)) (by simp only [pS, Value.cells, Nat.reduceAdd] <;> rfl)) ⟨_, rfl, hb_5⟩ rfl ?_
 refine al_ro' (ro_call (evL_cons up_h evL_nil) rfl ((lineErr_ok l (fewL_sho hf)).mono (fun q h => show q = mA 0 from h.trans (by rw [hg]))) y89_hcf9) ⟨_, rfl, (up_m rfl hb_5)⟩ rfl ?_
 refine al_ro' (ro_neq up_h ev_c) ⟨_, rfl, (u2 rfl hb_5)⟩ rfl ?_
 refine ar (ro_pickF (up_m rfl (u2 rfl hb_5)) up_h) rfl <| ar (ro_move up_h) rfl <| al_case up_h (fun hb_9 hq_9 => ?_) (fun hb_9 hq_9 => ?_)
 ·cases hq_9
 replace hq_9 := bnf hq_9
 refine al_ro' (ro_move (up_m rfl (u8 rfl s1_3))) ⟨_, rfl, hb_9⟩ rfl ?_
 refine al_ro' (ro_fld_ptr qfl26_3 rfl (u2 rfl (u8 rfl s3_3))) ⟨_, rfl, (up_m rfl hb_9)⟩ rfl ?_
 refine al_ro' (ro_eq (ro_ld_ptr y89_ty24 rfl mo0_1 up_h (nle rfl)) (by simp only [pS, Value.cells, Nat.reduceAdd] <;> rfl)) ⟨_, rfl, (u2 rfl hb_9)⟩ rfl ?_
 refine al_ro' (ro_eq (ro_len_row up_h rfl y89_sl24.1) (by simp only [lnS] <;> rfl)) ⟨_, rfl, (up_m rfl (u2 rfl hb_9))⟩ rfl ?_
 (refine al_ro' (ro_sub' up_h ev_c ?_) ⟨_, rfl, (u4 rfl hb_9)⟩ rfl ?_; · (unfold In64; omega))
 refine al_ro' (ro_call (evL_cons (u4 rfl up_h) (evL_cons ev_c (evL_cons up_h evL_nil))) rfl ((bWithin_ok n 0 (l.ss.length - 1)).mono (fun q h => show q = tbA false from h.trans (by rw [hw]))) qhcf16) ⟨_, rfl, (up_m rfl (u4 rfl hb_9))⟩ rfl ?_
 refine al_ro' (ro_not up_h) ⟨_, rfl, (u2 rfl (u4 rfl hb_9))⟩ rfl ?_
 refine ar (ro_pickF (up_m rfl (u2 rfl (u4 rfl hb_9))) up_h) rfl <| ar (ro_move up_h) rfl <| al_case up_h (fun hb_13 hq_13 => ?_) (fun hb_13 hq_13 => ?_)
 ·replace hq_13 := bt' hq_13
  refine al_skip' ⟨_, rfl, .inl hb_13⟩ rfl ?_
  refine al_skip' ⟨_, rfl, .inl (up_m rfl hb_13)⟩ rfl ?_
  refine al_skip' ⟨_, rfl, .inl (u2 rfl hb_13)⟩ rfl ?_
  refine al_skip' ⟨_, rfl, .inl (up_m rfl (u2 rfl hb_13))⟩ rfl ?_
  refine ar (ro_pickT (u4 rfl hb_13) ev_c) rfl <| ae4 (up_m rfl (u2 rfl (u4 rfl (u16 rfl s1_3)))) (up_m rfl (u2 rfl (u4 rfl (u16 rfl s2_3)))) (up_m rfl (u2 rfl (u4 rfl (u16 rfl s3_3)))) up_h ?_; clear hb_13 hb_5 hb_9 s1_3 s2_3 s31_3 s3_3; intro e_14 s1_14 s2_14 s3_14 s54_14
  refine then_n <| aw_true s54_14 <| aw_seq <| at_ <| ar (ro_assign ev_c) rfl <| ae1 up_h ?_; clear s1_14 s2_14 s3_14 s54_14; intro e_16 s6_16
  refine then_n <| aw_ret <| then_r <| ret1 (.inr rfl) (by kernel_rfl) (resV_tmp s6_16) (.ro _ rfl) ?_
  clear s6_16 mo0_1 ml_1
  first | rfl | (simp_all; done)
 ·cases hq_13
set_option maxRecDepth 100000 in
set_option maxHeartbeats 4000000 in
theorem topLineBranches_far (l : Lin) (hf : fewL l = true) (hg : (linM l).2 = 0) (n p : Int) (hw : withinB n 0 (l.ss.length - 1) = true) (hp : plaE l p ≠ 0) : FnOk Try.prog 4 [lnA l, mA n, mA p] (fun q => q = tbA true) := by
 refine fnOk_of (fn := Try.f4) 249 (by kernel_rfl) rfl (by kernel_rfl) (Nat.le_of_ble_eq_true rfl) ?_
 intro e_0 m_0 hA hm_0
 have s0_0 : evA e_0 (.tmp 0) = _ := hA 0 _ rfl
 have s1_0 : evA e_0 (.tmp 1) = _ := hA 1 _ rfl
 have s2_0 : evA e_0 (.tmp 2) = _ := hA 2 _ rfl
 have ml_0 : m_0.length = 0 := by rw [hm_0]; rfl
 clear hA hm_0
 have hl := fewL_sho hf; have hsl := hl.2.2.2.1
 refine aw_seq <| at_ <| al_stm (st_box s0_0 rfl ml_0) trivial rfl (fun m_1 hm_1 => ?_)
 have mo0_1 := m_push hm_1 ml_0
 have ml_1 := m_push_l hm_1 ml_0
 have ml_1 : _ = 1 := ml_1
 clear hm_1
 refine ar (ro_assign ev_c) rfl <| ae3 (u2 rfl s1_0) (u2 rfl s2_0) (up_m rfl up_h) ?_; clear s0_0 s1_0 s2_0; intro e_2 s1_2 s2_2 s3_2
 refine then_n <| aw_seq <| aw_seq <| at_ <| ar (ro_call evL_nil rfl (lAwake_ok) y89_hcf15) rfl <| ar (ro_not up_h) rfl <| ae4 (u2 rfl s1_2) (u2 rfl s2_2) (u2 rfl s3_2) up_h ?_; clear s1_2 s2_2 s3_2; intro e_3 s1_3 s2_3 s3_3 s31_3
 refine then_n <| aw_case s31_3 (fun hq_4 => ?_) (fun hq_4 => ?_)
 ·cases hq_4
 replace hq_4 := bf' hq_4
 refine aw_skip <| then_n <| aw_seq <| aw_seq <| at_ <| ar (ro_eq (ro_ld_ptr y89_ty26 rfl mo0_1 s3_3 (nle rfl)) (by simp only [pS, Value.cells, Nat.reduceAdd] <;> rfl)) rfl ?_
 refine ar (ro_call (evL_cons up_h evL_nil) rfl ((fewL_ok l).mono (fun q h => show q = tbA true from h.trans (by rw [hf]))) y89_hcf6) rfl ?_
 refine ar (ro_not up_h) rfl <| ar (ro_move up_h) rfl <| al_case up_h (fun hb_5 hq_5 => ?_) (fun hb_5 hq_5 => ?_)
 ·cases hq_5
 replace hq_5 := bf' hq_5
 refine al_ro' (ro_eq (ro_ld_ptr y89_ty26 rfl mo0_1 (u4 rfl s3_3) (nle rfl)) (by simp only [pS, Value.cells, Nat.reduceAdd] <;> rfl)) ⟨_, rfl, hb_5⟩ rfl ?_
 refine al_ro' (ro_call (evL_cons up_h evL_nil) rfl ((lineErr_ok l (fewL_sho hf)).mono (fun q h => show q = mA 0 from h.trans (by rw [hg]))) y89_hcf9) ⟨_, rfl, (up_m rfl hb_5)⟩ rfl ?_
 refine al_ro' (ro_neq up_h ev_c) ⟨_, rfl, (u2 rfl hb_5)⟩ rfl ?_
 refine ar (ro_pickF (up_m rfl (u2 rfl hb_5)) up_h) rfl <| ar (ro_move up_h) rfl <| al_case up_h (fun hb_9 hq_9 => ?_) (fun hb_9 hq_9 => ?_)
 ·cases hq_9
 replace hq_9 := bnf hq_9
 refine al_ro' (ro_move (up_m rfl (u8 rfl s1_3))) ⟨_, rfl, hb_9⟩ rfl ?_
 refine al_ro' (ro_fld_ptr qfl26_3 rfl (u2 rfl (u8 rfl s3_3))) ⟨_, rfl, (up_m rfl hb_9)⟩ rfl ?_
 refine al_ro' (ro_eq (ro_ld_ptr y89_ty24 rfl mo0_1 up_h (nle rfl)) (by simp only [pS, Value.cells, Nat.reduceAdd] <;> rfl)) ⟨_, rfl, (u2 rfl hb_9)⟩ rfl ?_
 refine al_ro' (ro_eq (ro_len_row up_h rfl y89_sl24.1) (by simp only [lnS] <;> rfl)) ⟨_, rfl, (up_m rfl (u2 rfl hb_9))⟩ rfl ?_
 (refine al_ro' (ro_sub' up_h ev_c ?_) ⟨_, rfl, (u4 rfl hb_9)⟩ rfl ?_; · (unfold In64; omega))
 refine al_ro' (ro_call (evL_cons (u4 rfl up_h) (evL_cons ev_c (evL_cons up_h evL_nil))) rfl ((bWithin_ok n 0 (l.ss.length - 1)).mono (fun q h => show q = tbA true from h.trans (by rw [hw]))) qhcf16) ⟨_, rfl, (up_m rfl (u4 rfl hb_9))⟩ rfl ?_
 refine al_ro' (ro_not up_h) ⟨_, rfl, (u2 rfl (u4 rfl hb_9))⟩ rfl ?_
 refine ar (ro_pickF (up_m rfl (u2 rfl (u4 rfl hb_9))) up_h) rfl <| ar (ro_move up_h) rfl <| al_case up_h (fun hb_13 hq_13 => ?_) (fun hb_13 hq_13 => ?_)
 ·cases hq_13
 replace hq_13 := bf' hq_13
 refine al_ro' (ro_eq (ro_ld_ptr y89_ty26 rfl mo0_1 (u2 rfl (u16 rfl s3_3)) (nle rfl)) (by simp only [pS, Value.cells, Nat.reduceAdd] <;> rfl)) ⟨_, rfl, hb_13⟩ rfl ?_
 refine al_ro' (ro_move (up_m rfl (u2 rfl (u16 rfl s2_3)))) ⟨_, rfl, (up_m rfl hb_13)⟩ rfl ?_
 refine al_ro' (ro_call (evL_cons (up_m rfl up_h) (evL_cons up_h evL_nil)) rfl (rPlaceErr_ok l (rgt_of hg) p) y89_hcf17) ⟨_, rfl, (u2 rfl hb_13)⟩ rfl ?_
 refine al_ro' (ro_neq up_h ev_c) ⟨_, rfl, (up_m rfl (u2 rfl hb_13))⟩ rfl ?_
 refine ar (ro_pickF (u4 rfl hb_13) up_h) rfl <| ae4 (up_m rfl (u2 rfl (u4 rfl (u16 rfl s1_3)))) (up_m rfl (u2 rfl (u4 rfl (u16 rfl s2_3)))) (up_m rfl (u2 rfl (u4 rfl (u16 rfl s3_3)))) up_h ?_; clear hb_13 hb_5 hb_9 s1_3 s2_3 s31_3 s3_3; intro e_17 s1_17 s2_17 s3_17 s54_17
 refine then_n <| aw_case s54_17 (fun hq_18 => ?_) (fun hq_18 => ?_)
 ·replace hq_18 := bnt hq_18
  refine aw_seq <| at_ <| ar (ro_assign ev_c) rfl <| ae1 up_h ?_; clear s1_17 s2_17 s3_17 s54_17; intro e_19 s6_19
  refine then_n <| aw_ret <| then_r <| ret1 (.inr rfl) (by kernel_rfl) (resV_tmp s6_19) (.ro _ rfl) ?_
  clear s6_19 mo0_1 ml_1
  first | rfl | (simp_all; done)
 ·replace hq_18 := bnf hq_18; exfalso; omega
set_option maxRecDepth 100000 in
set_option maxHeartbeats 4000000 in
theorem topLineBranches_in (l : Lin) (hf : fewL l = true) (hg : (linM l).2 = 0) (n p : Int) (hw : withinB n 0 (l.ss.length - 1) = true) (hp : plaE l p = 0) (t : Swi) (ht : l.ss.getD n.toNat default = t) (ua ub ca cb : Int)
 (hu : betA (l.js.getD (atI l p) default).up (l.js.getD (atI l p + 1) default).up (atD l p) (l.bs.getD (atI l p) default).len = frA ua ub) (hc : betA (l.js.getD (atI l p) default).acr (l.js.getD (atI l p + 1) default).acr (atD l p) (l.bs.getD (atI l p) default).len = frA ca cb)
 (A B : List Int) (hA : A = limL l 1000 (l.js.length - 2)) (hB : B = limL (braL l t) 1000 (l.js.length - 2)) (hAB : ∀ j : Int, 1 ≤ j → j ≤ A.length → withinB j (t.fst - 1) (t.fst + t.acr.length - 1 + 1) = false → A.getD (j - 1).toNat default = B.getD (j - 1).toNat default) : FnOk Try.prog 4 [lnA l, mA n, mA p] (fun q => q = tbA true) := by
 refine fnOk_of (fn := Try.f4) 249 (by kernel_rfl) rfl (by kernel_rfl) (Nat.le_of_ble_eq_true rfl) ?_
 intro e_0 m_0 hA hm_0
 have s0_0 : evA e_0 (.tmp 0) = _ := hA 0 _ rfl
 have s1_0 : evA e_0 (.tmp 1) = _ := hA 1 _ rfl
 have s2_0 : evA e_0 (.tmp 2) = _ := hA 2 _ rfl
 have ml_0 : m_0.length = 0 := by rw [hm_0]; rfl
 clear hA hm_0
 have hl := fewL_sho hf; have hsl := hl.2.2.2.1; have hr := rgt_of hg; have hn1 := hr.n1; have hjs := hr.js; have hw2 := withinB_iff.1 hw; have hp2 := plaE_z.1 hp; have hfit := fit_of hr (i := n.toNat) (by omega); have hsw := hr.swi (i := n.toNat) (by omega); have hself := brF_self hr (i := n.toNat) (by omega); have hts := (hl.at n.toNat).1; rw [ht] at hfit hsw hself hts; have hbl := braL_sho hl t; have hbr := braL_rgt hr (t := t) hsw.2.2.2; have hbg := rgt_to hbr; have hml := revL_sho hl; have hmg := rgt_to (revL_rgt hr); have hrv := bra_rev hr hfit; have hff := hfit.f1; have hfn := hfit.n1; have hfi := hfit.in_; have hal : A.length = l.js.length - 2 := (by rw [hA, limL_len]); have hbln : B.length = l.js.length - 2 := (by rw [hB, limL_len]); have hjl := bra_len l t; have hpl2 : plaP l.bs (t.fst + t.acr.length - 1 + 1).toNat = plaP l.bs (t.fst + t.acr.length).toNat := (by rw [show t.fst + (t.acr.length : Int) - 1 + 1 = t.fst + t.acr.length by omega])
 refine aw_seq <| at_ <| al_stm (st_box s0_0 rfl ml_0) trivial rfl (fun m_1 hm_1 => ?_)
 have mo0_1 := m_push hm_1 ml_0
 have ml_1 := m_push_l hm_1 ml_0
 have ml_1 : _ = 1 := ml_1
 clear hm_1
 refine ar (ro_assign ev_c) rfl <| ae3 (u2 rfl s1_0) (u2 rfl s2_0) (up_m rfl up_h) ?_; clear s0_0 s1_0 s2_0; intro e_2 s1_2 s2_2 s3_2
 refine then_n <| aw_seq <| aw_seq <| at_ <| ar (ro_call evL_nil rfl (lAwake_ok) y89_hcf15) rfl <| ar (ro_not up_h) rfl <| ae4 (u2 rfl s1_2) (u2 rfl s2_2) (u2 rfl s3_2) up_h ?_; clear s1_2 s2_2 s3_2; intro e_3 s1_3 s2_3 s3_3 s31_3
 refine then_n <| aw_case s31_3 (fun hq_4 => ?_) (fun hq_4 => ?_)
 ·cases hq_4
 replace hq_4 := bf' hq_4
 refine aw_skip <| then_n <| aw_seq <| aw_seq <| at_ <| ar (ro_eq (ro_ld_ptr y89_ty26 rfl mo0_1 s3_3 (nle rfl)) (by simp only [pS, Value.cells, Nat.reduceAdd, frA, swE, ht] <;> rfl)) rfl ?_
 refine ar (ro_call (evL_cons up_h evL_nil) rfl ((fewL_ok l).mono (fun q h => show q = tbA true from h.trans (by rw [hf]))) y89_hcf6) rfl ?_
 refine ar (ro_not up_h) rfl <| ar (ro_move up_h) rfl <| al_case up_h (fun hb_5 hq_5 => ?_) (fun hb_5 hq_5 => ?_)
 ·cases hq_5
 replace hq_5 := bf' hq_5
 refine al_ro' (ro_eq (ro_ld_ptr y89_ty26 rfl mo0_1 (u4 rfl s3_3) (nle rfl)) (by simp only [pS, Value.cells, Nat.reduceAdd, frA, swE, ht] <;> rfl)) ⟨_, rfl, hb_5⟩ rfl ?_
 refine al_ro' (ro_call (evL_cons up_h evL_nil) rfl ((lineErr_ok l hl).mono (fun q h => show q = mA 0 from h.trans (by rw [hg]))) y89_hcf9) ⟨_, rfl, (up_m rfl hb_5)⟩ rfl ?_
 refine al_ro' (ro_neq up_h ev_c) ⟨_, rfl, (u2 rfl hb_5)⟩ rfl ?_
 refine ar (ro_pickF (up_m rfl (u2 rfl hb_5)) up_h) rfl <| ar (ro_move up_h) rfl <| al_case up_h (fun hb_9 hq_9 => ?_) (fun hb_9 hq_9 => ?_)
 ·cases hq_9
 replace hq_9 := bnf hq_9
 refine al_ro' (ro_move (up_m rfl (u8 rfl s1_3))) ⟨_, rfl, hb_9⟩ rfl ?_
 refine al_ro' (ro_fld_ptr qfl26_3 rfl (u2 rfl (u8 rfl s3_3))) ⟨_, rfl, (up_m rfl hb_9)⟩ rfl ?_
 refine al_ro' (ro_eq (ro_ld_ptr y89_ty24 rfl mo0_1 up_h (nle rfl)) (by simp only [pS, Value.cells, Nat.reduceAdd, frA, swE, ht] <;> rfl)) ⟨_, rfl, (u2 rfl hb_9)⟩ rfl ?_
 refine al_ro' (ro_eq (ro_len_row up_h rfl y89_sl24.1) (by simp only [lnS] <;> rfl)) ⟨_, rfl, (up_m rfl (u2 rfl hb_9))⟩ rfl ?_
 (refine al_ro' (ro_sub' up_h ev_c ?_) ⟨_, rfl, (u4 rfl hb_9)⟩ rfl ?_; · (unfold In64; omega))
 refine al_ro' (ro_call (evL_cons (u4 rfl up_h) (evL_cons ev_c (evL_cons up_h evL_nil))) rfl ((bWithin_ok n 0 (l.ss.length - 1)).mono (fun q h => show q = tbA true from h.trans (by rw [hw]))) qhcf16) ⟨_, rfl, (up_m rfl (u4 rfl hb_9))⟩ rfl ?_
 refine al_ro' (ro_not up_h) ⟨_, rfl, (u2 rfl (u4 rfl hb_9))⟩ rfl ?_
 refine ar (ro_pickF (up_m rfl (u2 rfl (u4 rfl hb_9))) up_h) rfl <| ar (ro_move up_h) rfl <| al_case up_h (fun hb_13 hq_13 => ?_) (fun hb_13 hq_13 => ?_)
 ·cases hq_13
 replace hq_13 := bf' hq_13
 refine al_ro' (ro_eq (ro_ld_ptr y89_ty26 rfl mo0_1 (u2 rfl (u16 rfl s3_3)) (nle rfl)) (by simp only [pS, Value.cells, Nat.reduceAdd, frA, swE, ht] <;> rfl)) ⟨_, rfl, hb_13⟩ rfl ?_
 refine al_ro' (ro_move (up_m rfl (u2 rfl (u16 rfl s2_3)))) ⟨_, rfl, (up_m rfl hb_13)⟩ rfl ?_
 refine al_ro' (ro_call (evL_cons (up_m rfl up_h) (evL_cons up_h evL_nil)) rfl ((rPlaceErr_ok l hr p).mono (fun q h => show q = mA 0 from h.trans (by rw [hp]))) y89_hcf17) ⟨_, rfl, (u2 rfl hb_13)⟩ rfl ?_
 refine al_ro' (ro_neq up_h ev_c) ⟨_, rfl, (up_m rfl (u2 rfl hb_13))⟩ rfl ?_
 refine ar (ro_pickF (u4 rfl hb_13) up_h) rfl <| ae4 (up_m rfl (u2 rfl (u4 rfl (u16 rfl s1_3)))) (up_m rfl (u2 rfl (u4 rfl (u16 rfl s2_3)))) (up_m rfl (u2 rfl (u4 rfl (u16 rfl s3_3)))) up_h ?_; clear hb_13 hb_5 hb_9 s1_3 s2_3 s31_3 s3_3; intro e_17 s1_17 s2_17 s3_17 s54_17
 refine then_n <| aw_case s54_17 (fun hq_18 => ?_) (fun hq_18 => ?_)
 ·cases hq_18
 replace hq_18 := bnf hq_18
 refine aw_skip <| then_n <| aw_seq <| at_ <| ar (ro_fld_ptr qfl26_3 rfl s3_17) rfl <| ar (ro_eq (ro_ld_ptr y89_ty24 rfl mo0_1 up_h (nle rfl)) (by simp only [pS, Value.cells, Nat.reduceAdd, frA, swE, ht] <;> rfl)) rfl ?_
 refine ar (ro_move (u2 rfl s1_17)) rfl <| ar (ro_eq (ro_ix y89_sl24 (up_m rfl up_h) up_h (by omega) (by first | (refine idx_map ?_; first | omega | (simp only [lnS]; omega)) | (refine idx_mapI ?_; first | omega | (simp only [lnS]; omega)) | (refine idx_mapN ?_; first | omega | (simp only [lnS]; omega)) | rfl)) (by simp only [pS, Value.cells, Nat.reduceAdd, frA, swE, ht] <;> rfl)) rfl ?_
 refine ar (ro_eq (ro_ld_ref y89_ty47 rfl up_h (nle rfl)) (by simp only [pS, Value.cells, Nat.reduceAdd, frA, swE, ht] <;> rfl)) rfl ?_
 refine al_stm (st_alloc qaz47 rfl ml_1) trivial rfl (fun m_19 hm_19 => ?_)
 have mo1_19 := m_push hm_19 ml_1
 simp only [pS, Value.cells, Nat.reduceAdd, frA, swE, ht] at mo1_19
 have mo0_19 := m_push_o hm_19 mo0_1
 have ml_19 := m_push_l hm_19 ml_1
 have ml_19 : _ = 2 := ml_19
 clear hm_19 mo0_1
 refine al_stm (st_store up_h (up_m rfl up_h) rfl rfl mo1_19 qsz47 rfl (nle rfl)) trivial rfl (fun m_20 hm_20 => ?_)
 have mo1_20 := m_set hm_20 mo1_19
 simp only [pS, Value.cells, Nat.reduceAdd, frA, swE, ht] at mo1_20
 have mo0_20 := m_set_o hm_20 mo0_19 (by decide)
 have ml_20 := m_set_l hm_20 ml_19
 clear hm_20 mo1_19 mo0_19
 refine ae3 (up_n (u2 rfl (u4 rfl s2_17))) (up_n (u2 rfl (u4 rfl s3_17))) (up_n up_h) ?_; clear s1_17 s2_17 s3_17 s54_17; intro e_21 s2_21 s3_21 s7_21
 refine then_n <| aw_seq <| aw_drawK 10 1 ml_20 (by kernel_rfl) (by kernel_rfl) (by kernel_rfl) (by kernel_rfl) (fun m_22 hm_22 => ?_)
 have mo1_22 := m_room_o hm_22 mo1_20
 have mo0_22 := m_room_o hm_22 mo0_20
 have mo2_22 : m_22[2]? = _ := m_room_g hm_22 ml_20 0 rfl rfl
 have ml_22 : _ = 3 := m_room_l (K := 1) hm_22 ml_20
 clear hm_22 mo1_20 mo0_20 ml_20
 refine dh_ld (0) (fun M_ hM_ => (ro_eq (ro_ld_ptr y89_ty26 rfl (agr hM_ mo0_22 (by simp)) s3_21 (nle rfl)) (by simp only [pS, Value.cells, Nat.reduceAdd, frA, swE, ht] <;> rfl))) trivial trivial ?_
 refine dh_ro (fun M_ hM_ => (ro_call (evL_cons up_h evL_nil) rfl (yCopy_ok l hl) y89_hcf8)) trivial ?_
 refine dh_ro (fun M_ hM_ => (ro_fld_ptr qfl47_0 rfl (u2 rfl s7_21))) trivial ?_
 refine dh_ld (1) (fun M_ hM_ => (ro_eq (ro_ld_ptr y89_ty9 rfl (agr hM_ mo1_22 (by simp)) up_h (nle rfl)) (by simp only [pS, Value.cells, Nat.reduceAdd, frA, swE, ht] <;> rfl))) trivial trivial ?_
 refine dh_ro (fun M_ hM_ => (ro_call (evL_cons (u2 rfl up_h) (evL_cons up_h evL_nil)) rfl ((branch_good l hl hg t.nam (by omega)).mono (fun q h => show q = .tuple [lnA (braL l t), mA 0] from h.trans (by unfold braA; rw [hself]))) y89_hcf18)) trivial ?_
 refine dh_ro (fun M_ hM_ => (ro_move up_h)) trivial ?_
 refine dh_ro (fun M_ hM_ => (ro_extract up_h rfl)) trivial ?_
 refine dh_ro (fun M_ hM_ => (ro_extract (up_m rfl up_h) rfl)) trivial ?_
 refine dh_nw (2) (fun M_ hM_ => (nw_alloc qaz26 rfl)) trivial mo2_22 rfl trivial ⟨.inl (by simp <;> omega), ⟨.inl (by simp <;> omega), trivial⟩⟩ (fun m_23 hm_23 => ?_)
 have mo2_23 := m_set hm_23 mo2_22
 simp only [pS, Value.cells, Nat.reduceAdd, frA, swE, ht] at mo2_23
 have mo1_23 := m_set_o hm_23 mo1_22 (by decide)
 have mo0_23 := m_set_o hm_23 mo0_22 (by decide)
 have ml_23 := m_set_l hm_23 ml_22
 clear hm_23 mo1_22 mo0_22 mo2_22
 refine dh_set (2) (fun M_ hM_ => (se_store up_h (u2 rfl up_h) rfl rfl (agr hM_ mo2_23 (by simp)) qsz26 rfl (nle rfl))) trivial ⟨.inr (wt_one 9 8 (by kernel_rfl)), trivial⟩ ⟨.inl (by simp <;> omega), ⟨.inl (by simp <;> omega), ⟨.inr (wt_one 9 8 (by kernel_rfl)), trivial⟩⟩⟩ (fun m_24 hm_24 => ?_)
 have mo2_24 := m_set hm_24 mo2_23
 simp only [pS, Value.cells, Nat.reduceAdd, frA, swE, ht] at mo2_24
 have mo1_24 := m_set_o hm_24 mo1_23 (by decide)
 have mo0_24 := m_set_o hm_24 mo0_23 (by decide)
 have ml_24 := m_set_l hm_24 ml_23
 clear hm_24 mo2_23 mo1_23 mo0_23
 refine dh_nil rfl ?_
 refine ar (ro_assign (up_n (up_m rfl up_h))) rfl <| ae5 (up_m rfl (up_n (up_m rfl (u8 rfl s2_21)))) (up_m rfl (up_n (up_m rfl (u8 rfl s3_21)))) (up_m rfl (up_n (up_m rfl (u8 rfl s7_21)))) (up_m rfl (up_n up_h)) up_h ?_; clear s2_21 s3_21 s7_21; intro e_25 s2_25 s3_25 s7_25 s8_25 s9_25
 refine then_n <| aw_seq <| aw_seq <| at_ <| ar (ro_move s9_25) rfl <| ar (ro_neq up_h ev_c) rfl <| ar (ro_move up_h) rfl <| al_case up_h (fun hb_26 hq_26 => ?_) (fun hb_26 hq_26 => ?_)
 ·cases hq_26
 replace hq_26 := bnf hq_26
 refine al_ro' (ro_eq (ro_ld_ptr y89_ty26 rfl mo2_24 (up_m rfl (u2 rfl s8_25)) (nle rfl)) (by simp only [pS, Value.cells, Nat.reduceAdd, frA, swE, ht] <;> rfl)) ⟨_, rfl, hb_26⟩ rfl ?_
 refine al_ro' (ro_call (evL_cons up_h evL_nil) rfl ((lineErr_ok (braL l t) hbl).mono (fun q h => show q = mA 0 from h.trans (by rw [hbg]))) y89_hcf9) ⟨_, rfl, (up_m rfl hb_26)⟩ rfl ?_
 refine al_ro' (ro_neq up_h ev_c) ⟨_, rfl, (u2 rfl hb_26)⟩ rfl ?_
 refine ar (ro_pickF (up_m rfl (u2 rfl hb_26)) up_h) rfl <| ar (ro_move up_h) rfl <| al_case up_h (fun hb_30 hq_30 => ?_) (fun hb_30 hq_30 => ?_)
 ·cases hq_30
 replace hq_30 := bnf hq_30
 refine al_ro' (ro_fld_ptr qfl26_1 rfl (u8 rfl s8_25)) ⟨_, rfl, hb_30⟩ rfl ?_
 refine al_ro' (ro_eq (ro_ld_ptr y89_ty22 rfl mo2_24 up_h (nle rfl)) (by simp only [pS, Value.cells, Nat.reduceAdd, frA, swE, ht] <;> rfl)) ⟨_, rfl, (up_m rfl hb_30)⟩ rfl ?_
 refine al_ro' (ro_eq (ro_len_row up_h rfl y89_sl22.1) (by simp only [lnS] <;> rfl)) ⟨_, rfl, (u2 rfl hb_30)⟩ rfl ?_
 refine al_ro' (ro_fld_ptr qfl26_1 rfl (up_m rfl (u2 rfl (u8 rfl s3_25)))) ⟨_, rfl, (up_m rfl (u2 rfl hb_30))⟩ rfl ?_
 refine al_ro' (ro_eq (ro_ld_ptr y89_ty22 rfl mo0_24 up_h (nle rfl)) (by simp only [pS, Value.cells, Nat.reduceAdd, frA, swE, ht] <;> rfl)) ⟨_, rfl, (u4 rfl hb_30)⟩ rfl ?_
 refine al_ro' (ro_eq (ro_len_row up_h rfl y89_sl22.1) (by simp only [lnS] <;> rfl)) ⟨_, rfl, (up_m rfl (u4 rfl hb_30))⟩ rfl ?_
 refine al_ro' (ro_neq (up_m rfl (u2 rfl up_h)) up_h) ⟨_, rfl, (u2 rfl (u4 rfl hb_30))⟩ rfl ?_
 refine ar (ro_pickF (up_m rfl (u2 rfl (u4 rfl hb_30))) up_h) rfl <| ae5 (u16 rfl s2_25) (u16 rfl s3_25) (u16 rfl s7_25) (u16 rfl s8_25) up_h ?_; clear hb_26 hb_30 s2_25 s3_25 s7_25 s8_25 s9_25; intro e_34 s2_34 s3_34 s7_34 s8_34 s83_34
 refine then_n <| aw_case s83_34 (fun hq_35 => ?_) (fun hq_35 => ?_)
 ·replace hq_35 := bnt hq_35; exfalso; omega
 replace hq_35 := bnf hq_35
 refine aw_skip <| then_n <| aw_seq <| at_ <| ar (ro_eq (ro_ld_ptr y89_ty26 rfl mo0_24 s3_34 (nle rfl)) (by simp only [pS, Value.cells, Nat.reduceAdd, frA, swE, ht] <;> rfl)) rfl ?_
 refine ar (ro_call (evL_cons up_h evL_nil) rfl (yCopy_ok l hl) y89_hcf8) rfl <| ar (ro_move (u2 rfl s2_34)) rfl <| ar (ro_call (evL_cons (up_m rfl up_h) (evL_cons up_h evL_nil)) rfl ((UpAt_in l hl hg p hp).mono (fun q h => show q = .tuple [frA ua ub, mA 0] from h.trans (by rw [hu]))) y89_hcf19) rfl ?_
 refine ar (ro_move up_h) rfl <| ar (ro_extract up_h rfl) rfl <| ar (ro_extract (up_m rfl up_h) rfl) rfl <| al_stm (st_alloc qaz36 rfl ml_24) trivial rfl (fun m_37 hm_37 => ?_)
 have mo3_37 := m_push hm_37 ml_24
 simp only [pS, Value.cells, Nat.reduceAdd, frA, swE, ht] at mo3_37
 have mo2_37 := m_push_o hm_37 mo2_24
 have mo1_37 := m_push_o hm_37 mo1_24
 have mo0_37 := m_push_o hm_37 mo0_24
 have ml_37 := m_push_l hm_37 ml_24
 have ml_37 : _ = 4 := ml_37
 clear hm_37 mo2_24 mo1_24 mo0_24
 refine al_stm (st_store up_h (u2 rfl up_h) rfl rfl mo3_37 qsz36 rfl (nle rfl)) trivial rfl (fun m_38 hm_38 => ?_)
 have mo3_38 := m_set hm_38 mo3_37
 simp only [pS, Value.cells, Nat.reduceAdd, frA, swE, ht] at mo3_38
 have mo2_38 := m_set_o hm_38 mo2_37 (by decide)
 have mo1_38 := m_set_o hm_38 mo1_37 (by decide)
 have mo0_38 := m_set_o hm_38 mo0_37 (by decide)
 have ml_38 := m_set_l hm_38 ml_37
 clear hm_38 mo3_37 mo2_37 mo1_37 mo0_37
 refine ar (ro_assign (up_n (up_m rfl up_h))) rfl <| ae6 (up_m rfl (up_n (u8 rfl s2_34))) (up_m rfl (up_n (u8 rfl s3_34))) (up_m rfl (up_n (u8 rfl s7_34))) (up_m rfl (up_n (u8 rfl s8_34))) (up_m rfl (up_n up_h)) up_h ?_; clear s2_34 s3_34 s7_34 s83_34 s8_34; intro e_39 s2_39 s3_39 s7_39 s8_39 s10_39 s11_39
 refine then_n <| aw_seq <| at_ <| ar (ro_eq (ro_ld_ptr y89_ty26 rfl mo2_38 s8_39 (nle rfl)) (by simp only [pS, Value.cells, Nat.reduceAdd, frA, swE, ht] <;> rfl)) rfl ?_
 refine ar (ro_call (evL_cons up_h evL_nil) rfl (yCopy_ok (braL l t) hbl) y89_hcf8) rfl <| ar (ro_move (u2 rfl s2_39)) rfl <| ar (ro_call (evL_cons (up_m rfl up_h) (evL_cons up_h evL_nil)) rfl ((UpAt_in (braL l t) hbl hbg p hp).mono (fun q h => show q = .tuple [frA ua ub, mA 0] from h.trans (by rw [bra_up hr hfit, bra_up hr hfit, ← hu]; rfl))) y89_hcf19) rfl ?_
 refine ar (ro_move up_h) rfl <| ar (ro_extract up_h rfl) rfl <| ar (ro_extract (up_m rfl up_h) rfl) rfl <| al_stm (st_alloc qaz36 rfl ml_38) trivial rfl (fun m_40 hm_40 => ?_)
 have mo4_40 := m_push hm_40 ml_38
 simp only [pS, Value.cells, Nat.reduceAdd, frA, swE, ht] at mo4_40
 have mo3_40 := m_push_o hm_40 mo3_38
 have mo2_40 := m_push_o hm_40 mo2_38
 have mo1_40 := m_push_o hm_40 mo1_38
 have mo0_40 := m_push_o hm_40 mo0_38
 have ml_40 := m_push_l hm_40 ml_38
 have ml_40 : _ = 5 := ml_40
 clear hm_40 mo3_38 mo2_38 mo1_38 mo0_38
 refine al_stm (st_store up_h (u2 rfl up_h) rfl rfl mo4_40 qsz36 rfl (nle rfl)) trivial rfl (fun m_41 hm_41 => ?_)
 have mo4_41 := m_set hm_41 mo4_40
 simp only [pS, Value.cells, Nat.reduceAdd, frA, swE, ht] at mo4_41
 have mo3_41 := m_set_o hm_41 mo3_40 (by decide)
 have mo2_41 := m_set_o hm_41 mo2_40 (by decide)
 have mo1_41 := m_set_o hm_41 mo1_40 (by decide)
 have mo0_41 := m_set_o hm_41 mo0_40 (by decide)
 have ml_41 := m_set_l hm_41 ml_40
 clear hm_41 mo4_40 mo3_40 mo2_40 mo1_40 mo0_40
 refine ar (ro_assign (up_n (up_m rfl up_h))) rfl <| ae8 (up_m rfl (up_n (u8 rfl s2_39))) (up_m rfl (up_n (u8 rfl s3_39))) (up_m rfl (up_n (u8 rfl s7_39))) (up_m rfl (up_n (u8 rfl s8_39))) (up_m rfl (up_n (u8 rfl s10_39))) (up_m rfl (up_n (u8 rfl s11_39))) (up_m rfl (up_n up_h)) up_h ?_; clear s10_39 s11_39 s2_39 s3_39 s7_39 s8_39; intro e_42 s2_42 s3_42 s7_42 s8_42 s10_42 s11_42 s12_42 s13_42
 refine then_n <| aw_seq <| aw_seq <| at_ <| ar (ro_move s11_42) rfl <| ar (ro_neq up_h ev_c) rfl <| ar (ro_move up_h) rfl <| al_case up_h (fun hb_43 hq_43 => ?_) (fun hb_43 hq_43 => ?_)
 ·cases hq_43
 replace hq_43 := bnf hq_43
 refine al_ro' (ro_move (up_m rfl (u2 rfl s13_42))) ⟨_, rfl, hb_43⟩ rfl ?_
 refine al_ro' (ro_neq up_h ev_c) ⟨_, rfl, (up_m rfl hb_43)⟩ rfl ?_
 refine ar (ro_pickF (u2 rfl hb_43) up_h) rfl <| ar (ro_move up_h) rfl <| al_case up_h (fun hb_47 hq_47 => ?_) (fun hb_47 hq_47 => ?_)
 ·cases hq_47
 replace hq_47 := bnf hq_47
 refine al_ro' (ro_eq (ro_ld_ptr y89_ty36 rfl mo3_41 (up_m rfl (u2 rfl (u4 rfl s10_42))) (nle rfl)) (by simp only [pS, Value.cells, Nat.reduceAdd, frA, swE, ht] <;> rfl)) ⟨_, rfl, hb_47⟩ rfl ?_
 refine al_ro' (ro_eq (ro_ld_ptr y89_ty36 rfl mo4_41 (u8 rfl s12_42) (nle rfl)) (by simp only [pS, Value.cells, Nat.reduceAdd, frA, swE, ht] <;> rfl)) ⟨_, rfl, (up_m rfl hb_47)⟩ rfl ?_
 refine al_ro' (ro_sqneq (up_m rfl up_h) up_h rfl rfl y89_gq36 y89_sq36 (by decide)) ⟨_, rfl, (u2 rfl hb_47)⟩ rfl ?_
 refine ar (ro_pickF (up_m rfl (u2 rfl hb_47)) up_h) rfl <| ae5 (up_m rfl (u2 rfl (u8 rfl s2_42))) (up_m rfl (u2 rfl (u8 rfl s3_42))) (up_m rfl (u2 rfl (u8 rfl s7_42))) (up_m rfl (u2 rfl (u8 rfl s8_42))) up_h ?_; clear hb_43 hb_47 s10_42 s11_42 s12_42 s13_42 s2_42 s3_42 s7_42 s8_42; intro e_51 s2_51 s3_51 s7_51 s8_51 s108_51
 refine then_n <| aw_case s108_51 (fun hq_52 => ?_) (fun hq_52 => ?_)
 ·first | (simp at hq_52; done) | (exact absurd (hAB _ (by omega) (by omega) (by first | assumption | simp_all)) hq_52)
 replace hq_52 := bf' hq_52
 refine aw_skip <| then_n <| aw_seq <| at_ <| ar (ro_fld_ptr qfl47_1 rfl s7_51) rfl <| ar (ro_eq (ro_ld_ptr y89_ty3 rfl mo1_41 up_h (nle rfl)) (by simp only [pS, Value.cells, Nat.reduceAdd, frA, swE, ht] <;> rfl)) rfl ?_
 refine ar (ro_fld_ptr qfl47_2 rfl (u2 rfl s7_51)) rfl <| ar (ro_eq (ro_ld_ptr y89_ty40 rfl mo1_41 up_h (nle rfl)) (by simp only [pS, Value.cells, Nat.reduceAdd, frA, swE, ht] <;> rfl)) rfl ?_
 refine ar (ro_eq (ro_len_row up_h rfl y89_sl40.1) (by simp only [lnS] <;> rfl)) rfl ?_
 (refine ar (ro_add' (up_m rfl (u2 rfl up_h)) up_h ?_) rfl ?_; · (unfold In64; omega))
 (refine ar (ro_sub' up_h ev_c ?_) rfl ?_; · (unfold In64; omega))
 refine ar (ro_assign up_h) rfl <| ae5 (u8 rfl s2_51) (u8 rfl s3_51) (u8 rfl s7_51) (u8 rfl s8_51) up_h ?_; clear s108_51 s2_51 s3_51 s7_51 s8_51; intro e_54 s2_54 s3_54 s7_54 s8_54 s14_54
 refine then_n <| aw_seq <| aw_cut (fun e mem => (evA e (.tmp 3) = evA e_54 (.tmp 3)) ∧ (evA e (.tmp 7) = evA e_54 (.tmp 7)) ∧ (evA e (.tmp 8) = evA e_54 (.tmp 8)) ∧ (evA e (.tmp 14) = evA e_54 (.tmp 14)) ∧ (mem[4]? = m_41[4]?) ∧ (mem[3]? = m_41[3]?) ∧ (mem[2]? = m_41[2]?) ∧ (mem[1]? = m_41[1]?) ∧ (mem[0]? = m_41[0]?) ∧ (∃ n, mem.length = n ∧ 5 ≤ n)) ?_ ?_
 ·
  have mz4_55 := mo4_41
  have mz3_55 := mo3_41
  have mz2_55 := mo2_41
  have mz1_55 := mo1_41
  have mz0_55 := mo0_41
  refine aw_seq <| aw_cut (fun e mem => (evA e (.tmp 130) = .v (.bool (decide (p ≤ plaP l.bs (t.fst - 1).toNat ∨ plaP l.bs (t.fst + t.acr.length).toNat ≤ p)))) ∧ (evA e (.tmp 2) = evA e_54 (.tmp 2)) ∧ (evA e (.tmp 3) = evA e_54 (.tmp 3)) ∧ (evA e (.tmp 7) = evA e_54 (.tmp 7)) ∧ (evA e (.tmp 8) = evA e_54 (.tmp 8)) ∧ (evA e (.tmp 14) = evA e_54 (.tmp 14)) ∧ m_41 = mem) ?_ ?_
  ·
   refine at_ <| ar (ro_move s2_54) rfl <| ar (ro_eq (ro_ld_ptr y89_ty26 rfl mo0_41 (up_m rfl s3_54) (nle rfl)) (by simp only [pS, Value.cells, Nat.reduceAdd, frA, swE, ht] <;> rfl)) rfl ?_
   refine ar (ro_fld_ptr qfl47_1 rfl (u2 rfl s7_54)) rfl <| ar (ro_eq (ro_ld_ptr y89_ty3 rfl mo1_41 up_h (nle rfl)) (by simp only [pS, Value.cells, Nat.reduceAdd, frA, swE, ht] <;> rfl)) rfl ?_
   (refine ar (ro_sub' up_h ev_c ?_) rfl ?_; · (unfold In64; omega))
   refine ar (ro_call (evL_cons (up_m rfl (u2 rfl up_h)) (evL_cons up_h evL_nil)) rfl (rPlaceOf_ok l (by omega) hr.len _ ⟨by omega, by omega⟩) qhcf20) rfl ?_
   refine ar (ro_leq (up_m rfl (u4 rfl up_h)) up_h) rfl <| ar (ro_move up_h) rfl <| al_case up_h (fun hb_57 hq_57 => ?_) (fun hb_57 hq_57 => ?_)
   ·replace hq_57 := bt hq_57
    refine al_skip' ⟨_, rfl, .inl hb_57⟩ rfl ?_
    refine al_skip' ⟨_, rfl, .inl (up_m rfl hb_57)⟩ rfl ?_
    refine al_skip' ⟨_, rfl, .inl (u2 rfl hb_57)⟩ rfl ?_
    refine al_skip' ⟨_, rfl, .inl (up_m rfl (u2 rfl hb_57))⟩ rfl ?_
    refine al_skip' ⟨_, rfl, .inl (u4 rfl hb_57)⟩ rfl ?_
    refine al_skip' ⟨_, rfl, .inl (up_m rfl (u4 rfl hb_57))⟩ rfl ?_
    refine ar (ro_pickT (u2 rfl (u4 rfl hb_57)) ev_c) rfl <| ae6 (up_m rfl (u2 rfl (u4 rfl (u8 rfl s2_54)))) (up_m rfl (u2 rfl (u4 rfl (u8 rfl s3_54)))) (up_m rfl (u2 rfl (u4 rfl (u8 rfl s7_54)))) (up_m rfl (u2 rfl (u4 rfl (u8 rfl s8_54)))) (up_m rfl (u2 rfl (u4 rfl (u8 rfl s14_54)))) up_h ?_; intro e_58 s2_58 s3_58 s7_58 s8_58 s14_58 s130_58
    refine then_n ⟨(s130_58).trans (by (refine avb ?_; simp only [decide_eq_true_eq, decide_eq_false_iff_not, Bool.false_eq_true, true_iff, false_iff, iff_true, iff_false] at *; omega)), (s2_58).trans (s2_54).symm, (s3_58).trans (s3_54).symm, (s7_58).trans (s7_54).symm, (s8_58).trans (s8_54).symm, (s14_58).trans (s14_54).symm, rfl⟩
   replace hq_57 := bf hq_57
   refine al_ro' (ro_move (u8 rfl s2_54)) ⟨_, rfl, hb_57⟩ rfl ?_
   refine al_ro' (ro_eq (ro_ld_ptr y89_ty26 rfl mo0_41 (up_m rfl (u8 rfl s3_54)) (nle rfl)) (by simp only [pS, Value.cells, Nat.reduceAdd, frA, swE, ht] <;> rfl)) ⟨_, rfl, (up_m rfl hb_57)⟩ rfl ?_
   refine al_ro' (ro_move (u2 rfl (u8 rfl s14_54))) ⟨_, rfl, (u2 rfl hb_57)⟩ rfl ?_
   (refine al_ro' (ro_add' up_h ev_c ?_) ⟨_, rfl, (up_m rfl (u2 rfl hb_57))⟩ rfl ?_; · (unfold In64; omega))
   refine al_ro' (ro_call (evL_cons (u2 rfl up_h) (evL_cons up_h evL_nil)) rfl (rPlaceOf_ok l (by omega) hr.len _ ⟨by omega, by omega⟩) qhcf20) ⟨_, rfl, (u4 rfl hb_57)⟩ rfl ?_
   refine al_ro' (ro_geq (u4 rfl up_h) up_h) ⟨_, rfl, (up_m rfl (u4 rfl hb_57))⟩ rfl ?_
   refine ar (ro_pickF (u2 rfl (u4 rfl hb_57)) up_h) rfl <| ae6 (up_m rfl (u2 rfl (u4 rfl (u8 rfl s2_54)))) (up_m rfl (u2 rfl (u4 rfl (u8 rfl s3_54)))) (up_m rfl (u2 rfl (u4 rfl (u8 rfl s7_54)))) (up_m rfl (u2 rfl (u4 rfl (u8 rfl s8_54)))) (up_m rfl (u2 rfl (u4 rfl (u8 rfl s14_54)))) up_h ?_; intro e_59 s2_59 s3_59 s7_59 s8_59 s14_59 s130_59
   refine then_n ⟨(s130_59).trans (by (refine avb ?_; simp only [decide_eq_true_eq, decide_eq_false_iff_not, Bool.false_eq_true, true_iff, false_iff, iff_true, iff_false] at *; omega)), (s2_59).trans (s2_54).symm, (s3_59).trans (s3_54).symm, (s7_59).trans (s7_54).symm, (s8_59).trans (s8_54).symm, (s14_59).trans (s14_54).symm, rfl⟩
  ·rintro e_56 _ ⟨s130_56, k2_56, k3_56, k7_56, k8_56, k14_56, rfl⟩
   have s2_56 := k2_56.trans s2_54
   have s3_56 := k3_56.trans s3_54
   have s7_56 := k7_56.trans s7_54
   have s8_56 := k8_56.trans s8_54
   have s14_56 := k14_56.trans s14_54
   refine aw_case s130_56 (fun hq_60 => ?_) (fun hq_60 => ?_)
   ·replace hq_60 := bt hq_60
    refine aw_seq <| at_ <| ar (ro_eq (ro_ld_ptr y89_ty26 rfl mo0_41 s3_56 (nle rfl)) (by simp only [pS, Value.cells, Nat.reduceAdd, frA, swE, ht] <;> rfl)) rfl ?_
    refine ar (ro_call (evL_cons up_h evL_nil) rfl (yCopy_ok l hl) y89_hcf8) rfl <| ar (ro_move (u2 rfl s2_56)) rfl <| ar (ro_call (evL_cons (up_m rfl up_h) (evL_cons up_h evL_nil)) rfl ((AcrossAt_in l hl hg p hp).mono (fun q h => show q = .tuple [frA ca cb, mA 0] from h.trans (by rw [hc]))) y89_hcf21) rfl ?_
    refine ar (ro_move up_h) rfl <| ar (ro_extract up_h rfl) rfl <| ar (ro_extract (up_m rfl up_h) rfl) rfl <| al_stm (st_alloc qaz36 rfl ml_41) trivial rfl (fun m_61 hm_61 => ?_)
    have mo5_61 := m_push hm_61 ml_41
    simp only [pS, Value.cells, Nat.reduceAdd, frA, swE, ht] at mo5_61
    have mo4_61 := m_push_o hm_61 mo4_41
    have mo3_61 := m_push_o hm_61 mo3_41
    have mo2_61 := m_push_o hm_61 mo2_41
    have mo1_61 := m_push_o hm_61 mo1_41
    have mo0_61 := m_push_o hm_61 mo0_41
    have ml_61 := m_push_l hm_61 ml_41
    have ml_61 : _ = 6 := ml_61
    clear hm_61 mo4_41 mo3_41 mo2_41 mo1_41 mo0_41
    refine al_stm (st_store up_h (u2 rfl up_h) rfl rfl mo5_61 qsz36 rfl (nle rfl)) trivial rfl (fun m_62 hm_62 => ?_)
    have mo5_62 := m_set hm_62 mo5_61
    simp only [pS, Value.cells, Nat.reduceAdd, frA, swE, ht] at mo5_62
    have mo4_62 := m_set_o hm_62 mo4_61 (by decide)
    have mo3_62 := m_set_o hm_62 mo3_61 (by decide)
    have mo2_62 := m_set_o hm_62 mo2_61 (by decide)
    have mo1_62 := m_set_o hm_62 mo1_61 (by decide)
    have mo0_62 := m_set_o hm_62 mo0_61 (by decide)
    have ml_62 := m_set_l hm_62 ml_61
    clear hm_62 mo5_61 mo4_61 mo3_61 mo2_61 mo1_61 mo0_61
    refine ar (ro_assign (up_n (up_m rfl up_h))) rfl <| ae7 (up_m rfl (up_n (u8 rfl s2_56))) (up_m rfl (up_n (u8 rfl s3_56))) (up_m rfl (up_n (u8 rfl s7_56))) (up_m rfl (up_n (u8 rfl s8_56))) (up_m rfl (up_n (u8 rfl s14_56))) (up_m rfl (up_n up_h)) up_h ?_; intro e_63 s2_63 s3_63 s7_63 s8_63 s14_63 s15_63 s16_63
    refine then_n <| aw_seq <| at_ <| ar (ro_eq (ro_ld_ptr y89_ty26 rfl mo2_62 s8_63 (nle rfl)) (by simp only [pS, Value.cells, Nat.reduceAdd, frA, swE, ht] <;> rfl)) rfl ?_
    refine ar (ro_call (evL_cons up_h evL_nil) rfl (yCopy_ok (braL l t) hbl) y89_hcf8) rfl <| ar (ro_move (u2 rfl s2_63)) rfl <| ar (ro_call (evL_cons (up_m rfl up_h) (evL_cons up_h evL_nil)) rfl ((AcrossAt_in (braL l t) hbl hbg p hp).mono (fun q h => show q = .tuple [frA ca cb, mA 0] from h.trans (by rw [← hc, ← bra_across hr hfit hp2 (by omega)]; rfl))) y89_hcf21) rfl ?_
    refine ar (ro_move up_h) rfl <| ar (ro_extract up_h rfl) rfl <| ar (ro_extract (up_m rfl up_h) rfl) rfl <| al_stm (st_alloc qaz36 rfl ml_62) trivial rfl (fun m_64 hm_64 => ?_)
    have mo6_64 := m_push hm_64 ml_62
    simp only [pS, Value.cells, Nat.reduceAdd, frA, swE, ht] at mo6_64
    have mo5_64 := m_push_o hm_64 mo5_62
    have mo4_64 := m_push_o hm_64 mo4_62
    have mo3_64 := m_push_o hm_64 mo3_62
    have mo2_64 := m_push_o hm_64 mo2_62
    have mo1_64 := m_push_o hm_64 mo1_62
    have mo0_64 := m_push_o hm_64 mo0_62
    have ml_64 := m_push_l hm_64 ml_62
    have ml_64 : _ = 7 := ml_64
    clear hm_64 mo5_62 mo4_62 mo3_62 mo2_62 mo1_62 mo0_62
    refine al_stm (st_store up_h (u2 rfl up_h) rfl rfl mo6_64 qsz36 rfl (nle rfl)) trivial rfl (fun m_65 hm_65 => ?_)
    have mo6_65 := m_set hm_65 mo6_64
    simp only [pS, Value.cells, Nat.reduceAdd, frA, swE, ht] at mo6_65
    have mo5_65 := m_set_o hm_65 mo5_64 (by decide)
    have mo4_65 := m_set_o hm_65 mo4_64 (by decide)
    have mo3_65 := m_set_o hm_65 mo3_64 (by decide)
    have mo2_65 := m_set_o hm_65 mo2_64 (by decide)
    have mo1_65 := m_set_o hm_65 mo1_64 (by decide)
    have mo0_65 := m_set_o hm_65 mo0_64 (by decide)
    have ml_65 := m_set_l hm_65 ml_64
    clear hm_65 mo6_64 mo5_64 mo4_64 mo3_64 mo2_64 mo1_64 mo0_64
    refine ar (ro_assign (up_n (up_m rfl up_h))) rfl <| ae8 (up_m rfl (up_n (u8 rfl s3_63))) (up_m rfl (up_n (u8 rfl s7_63))) (up_m rfl (up_n (u8 rfl s8_63))) (up_m rfl (up_n (u8 rfl s14_63))) (up_m rfl (up_n (u8 rfl s15_63))) (up_m rfl (up_n (u8 rfl s16_63))) (up_m rfl (up_n up_h)) up_h ?_; intro e_66 s3_66 s7_66 s8_66 s14_66 s15_66 s16_66 s17_66 s18_66
    refine then_n <| aw_seq <| at_ <| ar (ro_move s16_66) rfl <| ar (ro_neq up_h ev_c) rfl <| ar (ro_move up_h) rfl <| al_case up_h (fun hb_67 hq_67 => ?_) (fun hb_67 hq_67 => ?_)
    ·cases hq_67
    replace hq_67 := bnf hq_67
    refine al_ro' (ro_move (up_m rfl (u2 rfl s18_66))) ⟨_, rfl, hb_67⟩ rfl ?_
    refine al_ro' (ro_neq up_h ev_c) ⟨_, rfl, (up_m rfl hb_67)⟩ rfl ?_
    refine ar (ro_pickF (u2 rfl hb_67) up_h) rfl <| ar (ro_move up_h) rfl <| al_case up_h (fun hb_71 hq_71 => ?_) (fun hb_71 hq_71 => ?_)
    ·cases hq_71
    replace hq_71 := bnf hq_71
    refine al_ro' (ro_eq (ro_ld_ptr y89_ty36 rfl mo5_65 (up_m rfl (u2 rfl (u4 rfl s15_66))) (nle rfl)) (by simp only [pS, Value.cells, Nat.reduceAdd, frA, swE, ht] <;> rfl)) ⟨_, rfl, hb_71⟩ rfl ?_
    refine al_ro' (ro_eq (ro_ld_ptr y89_ty36 rfl mo6_65 (u8 rfl s17_66) (nle rfl)) (by simp only [pS, Value.cells, Nat.reduceAdd, frA, swE, ht] <;> rfl)) ⟨_, rfl, (up_m rfl hb_71)⟩ rfl ?_
    refine al_ro' (ro_sqneq (up_m rfl up_h) up_h rfl rfl y89_gq36 y89_sq36 (by decide)) ⟨_, rfl, (u2 rfl hb_71)⟩ rfl ?_
    refine ar (ro_pickF (up_m rfl (u2 rfl hb_71)) up_h) rfl <| ae5 (up_m rfl (u2 rfl (u8 rfl s3_66))) (up_m rfl (u2 rfl (u8 rfl s7_66))) (up_m rfl (u2 rfl (u8 rfl s8_66))) (up_m rfl (u2 rfl (u8 rfl s14_66))) up_h ?_; intro e_75 s3_75 s7_75 s8_75 s14_75 s155_75
    refine then_n <| aw_case s155_75 (fun hq_76 => ?_) (fun hq_76 => ?_)
    ·first | (simp at hq_76; done) | (exact absurd (hAB _ (by omega) (by omega) (by first | assumption | simp_all)) hq_76)
    replace hq_76 := bf' hq_76
    refine aw_skip <| then_n ⟨(s3_75).trans (s3_54).symm, (s7_75).trans (s7_54).symm, (s8_75).trans (s8_54).symm, (s14_75).trans (s14_54).symm, mo4_65.trans mz4_55.symm, mo3_65.trans mz3_55.symm, mo2_65.trans mz2_55.symm, mo1_65.trans mz1_55.symm, mo0_65.trans mz0_55.symm, ⟨_, ml_65, by omega⟩⟩
   replace hq_60 := bf hq_60
   refine aw_skip <| then_n ⟨(s3_56).trans (s3_54).symm, (s7_56).trans (s7_54).symm, (s8_56).trans (s8_54).symm, (s14_56).trans (s14_54).symm, mo4_41.trans mz4_55.symm, mo3_41.trans mz3_55.symm, mo2_41.trans mz2_55.symm, mo1_41.trans mz1_55.symm, mo0_41.trans mz0_55.symm, ⟨_, ml_41, by omega⟩⟩
 ·rintro e_55 m_55 ⟨k3_55, k7_55, k8_55, k14_55, mk4_55, mk3_55, mk2_55, mk1_55, mk0_55, n_55, ml_55, hn_55⟩
  have s3_55 := k3_55.trans s3_54
  have s7_55 := k7_55.trans s7_54
  have s8_55 := k8_55.trans s8_54
  have s14_55 := k14_55.trans s14_54
  have mo4_55 := mk4_55.trans mo4_41
  have mo3_55 := mk3_55.trans mo3_41
  have mo2_55 := mk2_55.trans mo2_41
  have mo1_55 := mk1_55.trans mo1_41
  have mo0_55 := mk0_55.trans mo0_41
  refine aw_seq <| at_ <| ar (ro_eq (ro_ld_ptr y89_ty26 rfl mo0_55 s3_55 (nle rfl)) (by simp only [pS, Value.cells, Nat.reduceAdd, frA, swE, ht] <;> rfl)) rfl ?_
  refine ar (ro_call (evL_cons up_h evL_nil) rfl (yCopy_ok l hl) y89_hcf8) rfl <| ar (ro_call (evL_cons up_h evL_nil) rfl (reversed_good l hl hg) y89_hcf7) rfl <| ar (ro_move up_h) rfl <| ar (ro_extract up_h rfl) rfl <| ar (ro_extract (up_m rfl up_h) rfl) rfl <| al_stm (st_alloc qaz26 rfl ml_55) trivial rfl (fun m_78 hm_78 => ?_)
  have mon_55_78 := m_push hm_78 ml_55
  simp only [pS, Value.cells, Nat.reduceAdd, frA, swE, ht] at mon_55_78
  have mo4_78 := m_push_o hm_78 mo4_55
  have mo3_78 := m_push_o hm_78 mo3_55
  have mo2_78 := m_push_o hm_78 mo2_55
  have mo1_78 := m_push_o hm_78 mo1_55
  have mo0_78 := m_push_o hm_78 mo0_55
  have ml_78 := m_push_l hm_78 ml_55
  clear hm_78 mo4_55 mo3_55 mo2_55 mo1_55 mo0_55
  refine al_stm (st_store up_h (u2 rfl up_h) rfl rfl mon_55_78 qsz26 rfl (nle rfl)) trivial rfl (fun m_79 hm_79 => ?_)
  have mon_55_79 := m_set hm_79 mon_55_78
  simp only [pS, Value.cells, Nat.reduceAdd, frA, swE, ht] at mon_55_79
  have mo4_79 := m_set_o hm_79 mo4_78 (by omega)
  have mo3_79 := m_set_o hm_79 mo3_78 (by omega)
  have mo2_79 := m_set_o hm_79 mo2_78 (by omega)
  have mo1_79 := m_set_o hm_79 mo1_78 (by omega)
  have mo0_79 := m_set_o hm_79 mo0_78 (by omega)
  have ml_79 := m_set_l hm_79 ml_78
  clear hm_79 mon_55_78 mo4_78 mo3_78 mo2_78 mo1_78 mo0_78
  refine ar (ro_assign (up_n (up_m rfl up_h))) rfl <| ae6 (up_m rfl (up_n (up_m rfl (u2 rfl (u4 rfl s3_55))))) (up_m rfl (up_n (up_m rfl (u2 rfl (u4 rfl s7_55))))) (up_m rfl (up_n (up_m rfl (u2 rfl (u4 rfl s8_55))))) (up_m rfl (up_n (up_m rfl (u2 rfl (u4 rfl s14_55))))) (up_m rfl (up_n up_h)) up_h ?_; clear s14_55 s3_55 s7_55 s8_55; intro e_80 s3_80 s7_80 s8_80 s14_80 s19_80 s20_80
  refine then_n <| aw_seq <| at_ <| ar (ro_eq (ro_ld_ptr y89_ty26 rfl mon_55_79 s19_80 (nle rfl)) (by simp only [pS, Value.cells, Nat.reduceAdd, frA, swE, ht] <;> rfl)) rfl ?_
  refine ar (ro_fld_ptr qfl47_0 rfl (up_m rfl s7_80)) rfl <| ar (ro_eq (ro_ld_ptr y89_ty9 rfl mo1_79 up_h (nle rfl)) (by simp only [pS, Value.cells, Nat.reduceAdd, frA, swE, ht] <;> rfl)) rfl ?_
  refine ar (ro_call (evL_cons (u2 rfl up_h) (evL_cons up_h evL_nil)) rfl ((branch_good (revL l) hml hmg t.nam (by omega)).mono (fun q h => show q = .tuple [lnA (revL (braL l t)), mA 0] from h.trans (by unfold braA; rw [brF_rev, hself]; show AV.tuple [lnA (braL (revL l) (sRev l.js.length t)), mA 0] = _; rw [hrv]))) y89_hcf18) rfl ?_
  refine ar (ro_move up_h) rfl <| ar (ro_extract up_h rfl) rfl <| ar (ro_extract (up_m rfl up_h) rfl) rfl <| al_stm (st_alloc qaz26 rfl ml_79) trivial rfl (fun m_81 hm_81 => ?_)
  have mon_55_1_81 := m_push hm_81 ml_79
  simp only [pS, Value.cells, Nat.reduceAdd, frA, swE, ht] at mon_55_1_81
  have mon_55_81 := m_push_o hm_81 mon_55_79
  have mo4_81 := m_push_o hm_81 mo4_79
  have mo3_81 := m_push_o hm_81 mo3_79
  have mo2_81 := m_push_o hm_81 mo2_79
  have mo1_81 := m_push_o hm_81 mo1_79
  have mo0_81 := m_push_o hm_81 mo0_79
  have ml_81 := m_push_l hm_81 ml_79
  clear hm_81 mon_55_79 mo4_79 mo3_79 mo2_79 mo1_79 mo0_79
  refine al_stm (st_store up_h (u2 rfl up_h) rfl rfl mon_55_1_81 qsz26 rfl (nle rfl)) trivial rfl (fun m_82 hm_82 => ?_)
  have mon_55_1_82 := m_set hm_82 mon_55_1_81
  simp only [pS, Value.cells, Nat.reduceAdd, frA, swE, ht] at mon_55_1_82
  have mon_55_82 := m_set_o hm_82 mon_55_81 (by omega)
  have mo4_82 := m_set_o hm_82 mo4_81 (by omega)
  have mo3_82 := m_set_o hm_82 mo3_81 (by omega)
  have mo2_82 := m_set_o hm_82 mo2_81 (by omega)
  have mo1_82 := m_set_o hm_82 mo1_81 (by omega)
  have mo0_82 := m_set_o hm_82 mo0_81 (by omega)
  have ml_82 := m_set_l hm_82 ml_81
  clear hm_82 mon_55_1_81 mon_55_81 mo4_81 mo3_81 mo2_81 mo1_81 mo0_81
  refine ar (ro_assign (up_n (up_m rfl up_h))) rfl <| ae7 (up_m rfl (up_n (u8 rfl s3_80))) (up_m rfl (up_n (u8 rfl s7_80))) (up_m rfl (up_n (u8 rfl s8_80))) (up_m rfl (up_n (u8 rfl s14_80))) (up_m rfl (up_n (u8 rfl s20_80))) (up_m rfl (up_n up_h)) up_h ?_; clear s14_80 s19_80 s20_80 s3_80 s7_80 s8_80; intro e_83 s3_83 s7_83 s8_83 s14_83 s20_83 s21_83 s22_83
  refine then_n <| aw_seq <| at_ <| ar (ro_eq (ro_ld_ptr y89_ty26 rfl mo2_82 s8_83 (nle rfl)) (by simp only [pS, Value.cells, Nat.reduceAdd, frA, swE, ht] <;> rfl)) rfl ?_
  refine ar (ro_call (evL_cons up_h evL_nil) rfl (yCopy_ok (braL l t) hbl) y89_hcf8) rfl <| ar (ro_call (evL_cons up_h evL_nil) rfl (reversed_good (braL l t) hbl hbg) y89_hcf7) rfl <| ar (ro_move up_h) rfl <| ar (ro_extract up_h rfl) rfl <| ar (ro_extract (up_m rfl up_h) rfl) rfl <| al_stm (st_alloc qaz26 rfl ml_82) trivial rfl (fun m_84 hm_84 => ?_)
  have mon_55_1_1_84 := m_push hm_84 ml_82
  simp only [pS, Value.cells, Nat.reduceAdd, frA, swE, ht] at mon_55_1_1_84
  have mon_55_1_84 := m_push_o hm_84 mon_55_1_82
  have mon_55_84 := m_push_o hm_84 mon_55_82
  have mo4_84 := m_push_o hm_84 mo4_82
  have mo3_84 := m_push_o hm_84 mo3_82
  have mo2_84 := m_push_o hm_84 mo2_82
  have mo1_84 := m_push_o hm_84 mo1_82
  have mo0_84 := m_push_o hm_84 mo0_82
  have ml_84 := m_push_l hm_84 ml_82
  clear hm_84 mon_55_1_82 mon_55_82 mo4_82 mo3_82 mo2_82 mo1_82 mo0_82
  refine al_stm (st_store up_h (u2 rfl up_h) rfl rfl mon_55_1_1_84 qsz26 rfl (nle rfl)) trivial rfl (fun m_85 hm_85 => ?_)
  have mon_55_1_1_85 := m_set hm_85 mon_55_1_1_84
  simp only [pS, Value.cells, Nat.reduceAdd, frA, swE, ht] at mon_55_1_1_85
  have mon_55_1_85 := m_set_o hm_85 mon_55_1_84 (by omega)
  have mon_55_85 := m_set_o hm_85 mon_55_84 (by omega)
  have mo4_85 := m_set_o hm_85 mo4_84 (by omega)
  have mo3_85 := m_set_o hm_85 mo3_84 (by omega)
  have mo2_85 := m_set_o hm_85 mo2_84 (by omega)
  have mo1_85 := m_set_o hm_85 mo1_84 (by omega)
  have mo0_85 := m_set_o hm_85 mo0_84 (by omega)
  have ml_85 := m_set_l hm_85 ml_84
  clear hm_85 mon_55_1_1_84 mon_55_1_84 mon_55_84 mo4_84 mo3_84 mo2_84 mo1_84 mo0_84
  refine ar (ro_assign (up_n (up_m rfl up_h))) rfl <| ae9 (up_m rfl (up_n (up_m rfl (u2 rfl (u4 rfl s3_83))))) (up_m rfl (up_n (up_m rfl (u2 rfl (u4 rfl s7_83))))) (up_m rfl (up_n (up_m rfl (u2 rfl (u4 rfl s8_83))))) (up_m rfl (up_n (up_m rfl (u2 rfl (u4 rfl s14_83))))) (up_m rfl (up_n (up_m rfl (u2 rfl (u4 rfl s20_83))))) (up_m rfl (up_n (up_m rfl (u2 rfl (u4 rfl s21_83))))) (up_m rfl (up_n (up_m rfl (u2 rfl (u4 rfl s22_83))))) (up_m rfl (up_n up_h)) up_h ?_; clear s14_83 s20_83 s21_83 s22_83 s3_83 s7_83 s8_83; intro e_86 s3_86 s7_86 s8_86 s14_86 s20_86 s21_86 s22_86 s23_86 s24_86
  refine then_n <| aw_seq <| aw_seq <| at_ <| ar (ro_move s20_86) rfl <| ar (ro_neq up_h ev_c) rfl <| ar (ro_move up_h) rfl <| al_case up_h (fun hb_87 hq_87 => ?_) (fun hb_87 hq_87 => ?_)
  ·cases hq_87
  replace hq_87 := bnf hq_87
  refine al_ro' (ro_move (up_m rfl (u2 rfl s22_86))) ⟨_, rfl, hb_87⟩ rfl ?_
  refine al_ro' (ro_neq up_h ev_c) ⟨_, rfl, (up_m rfl hb_87)⟩ rfl ?_
  refine ar (ro_pickF (u2 rfl hb_87) up_h) rfl <| ar (ro_move up_h) rfl <| al_case up_h (fun hb_91 hq_91 => ?_) (fun hb_91 hq_91 => ?_)
  ·cases hq_91
  replace hq_91 := bnf hq_91
  refine al_ro' (ro_move (up_m rfl (u2 rfl (u4 rfl s24_86)))) ⟨_, rfl, hb_91⟩ rfl ?_
  refine al_ro' (ro_neq up_h ev_c) ⟨_, rfl, (up_m rfl hb_91)⟩ rfl ?_
  refine ar (ro_pickF (u2 rfl hb_91) up_h) rfl <| ar (ro_move up_h) rfl <| al_case up_h (fun hb_95 hq_95 => ?_) (fun hb_95 hq_95 => ?_)
  ·cases hq_95
  replace hq_95 := bnf hq_95
  refine al_ro' (ro_eq (ro_ld_ptr y89_ty26 rfl mon_55_1_85 (up_m rfl (u2 rfl (u8 rfl s21_86))) (nle rfl)) (by simp only [pS, Value.cells, Nat.reduceAdd, frA, swE, ht] <;> rfl)) ⟨_, rfl, hb_95⟩ rfl ?_
  refine al_ro' (ro_eq (ro_ld_ptr y89_ty26 rfl mon_55_1_1_85 (u4 rfl (u8 rfl s23_86)) (nle rfl)) (by simp only [pS, Value.cells, Nat.reduceAdd, frA, swE, ht] <;> rfl)) ⟨_, rfl, (up_m rfl hb_95)⟩ rfl ?_
  refine al_ro' (ro_call (evL_cons (up_m rfl up_h) (evL_cons up_h evL_nil)) rfl (same_refl (revL (braL l t)) (revL_sho hbl)) y89_hcf10) ⟨_, rfl, (u2 rfl hb_95)⟩ rfl ?_
  refine al_ro' (ro_not up_h) ⟨_, rfl, (up_m rfl (u2 rfl hb_95))⟩ rfl ?_
  refine ar (ro_pickF (u4 rfl hb_95) up_h) rfl <| ae5 (u16 rfl s3_86) (u16 rfl s7_86) (u16 rfl s8_86) (u16 rfl s14_86) up_h ?_; clear hb_87 hb_91 hb_95 s14_86 s20_86 s21_86 s22_86 s23_86 s24_86 s3_86 s7_86 s8_86; intro e_99 s3_99 s7_99 s8_99 s14_99 s190_99
  refine then_n <| aw_case s190_99 (fun hq_100 => ?_) (fun hq_100 => ?_)
  ·cases hq_100
  replace hq_100 := bf' hq_100
  refine aw_skip <| then_n <| aw_seq <| at_ <| ar (ro_eq (ro_ld_ptr y89_ty26 rfl mo0_85 s3_99 (nle rfl)) (by simp only [pS, Value.cells, Nat.reduceAdd, frA, swE, ht] <;> rfl)) rfl ?_
  refine ar (ro_call (evL_cons up_h evL_nil) rfl (yCopy_ok l hl) y89_hcf8) rfl <| ar (ro_call (evL_cons up_h (evL_cons ev_c evL_nil)) rfl ((limitsOf_good l hl hg 1000 (by decide)).mono (fun q h => show q = .tuple [.row 1 (A.map iE), mA 0] from h.trans (by rw [hA]))) y89_hcf14) rfl ?_
  refine ar (ro_move up_h) rfl <| ar (ro_extract up_h rfl) rfl <| ar (ro_extract (up_m rfl up_h) rfl) rfl <| ar (ro_assign (up_m rfl up_h)) rfl <| ar (ro_assign (up_m rfl up_h)) rfl <| ae5 (u8 rfl s7_99) (u8 rfl s8_99) (u8 rfl s14_99) (up_m rfl up_h) up_h ?_; clear s14_99 s190_99 s3_99 s7_99 s8_99; intro e_102 s7_102 s8_102 s14_102 s25_102 s26_102
  refine then_n <| aw_seq <| at_ <| ar (ro_eq (ro_ld_ptr y89_ty26 rfl mo2_85 s8_102 (nle rfl)) (by simp only [pS, Value.cells, Nat.reduceAdd, frA, swE, ht] <;> rfl)) rfl ?_
  refine ar (ro_call (evL_cons up_h evL_nil) rfl (yCopy_ok (braL l t) hbl) y89_hcf8) rfl <| ar (ro_call (evL_cons up_h (evL_cons ev_c evL_nil)) rfl ((limitsOf_good (braL l t) hbl hbg 1000 (by decide)).mono (fun q h => show q = .tuple [.row 1 (B.map iE), mA 0] from h.trans (by rw [hB, hjl]))) y89_hcf14) rfl ?_
  refine ar (ro_move up_h) rfl <| ar (ro_extract up_h rfl) rfl <| ar (ro_extract (up_m rfl up_h) rfl) rfl <| ar (ro_assign (up_m rfl up_h)) rfl <| ar (ro_assign (up_m rfl up_h)) rfl <| ae6 (u8 rfl s7_102) (u8 rfl s14_102) (u8 rfl s25_102) (u8 rfl s26_102) (up_m rfl up_h) up_h ?_; clear s14_102 s25_102 s26_102 s7_102 s8_102; intro e_103 s7_103 s14_103 s25_103 s26_103 s27_103 s28_103
  refine then_n <| aw_seq <| aw_seq <| at_ <| ar (ro_move s26_103) rfl <| ar (ro_neq up_h ev_c) rfl <| ar (ro_move up_h) rfl <| al_case up_h (fun hb_104 hq_104 => ?_) (fun hb_104 hq_104 => ?_)
  ·cases hq_104
  replace hq_104 := bnf hq_104
  refine al_ro' (ro_move (up_m rfl (u2 rfl s28_103))) ⟨_, rfl, hb_104⟩ rfl ?_
  refine al_ro' (ro_neq up_h ev_c) ⟨_, rfl, (up_m rfl hb_104)⟩ rfl ?_
  refine ar (ro_pickF (u2 rfl hb_104) up_h) rfl <| ar (ro_move up_h) rfl <| al_case up_h (fun hb_108 hq_108 => ?_) (fun hb_108 hq_108 => ?_)
  ·cases hq_108
  replace hq_108 := bnf hq_108
  refine al_ro' (ro_move (up_m rfl (u2 rfl (u4 rfl s25_103)))) ⟨_, rfl, hb_108⟩ rfl ?_
  refine al_ro' (ro_eq (ro_len_row up_h rfl y89_sl40.1) (by simp only [lnS] <;> rfl)) ⟨_, rfl, (up_m rfl hb_108)⟩ rfl ?_
  refine al_ro' (ro_move (up_m rfl (u8 rfl s27_103))) ⟨_, rfl, (u2 rfl hb_108)⟩ rfl ?_
  refine al_ro' (ro_eq (ro_len_row up_h rfl y89_sl40.1) (by simp only [lnS] <;> rfl)) ⟨_, rfl, (up_m rfl (u2 rfl hb_108))⟩ rfl ?_
  refine al_ro' (ro_neq (u2 rfl up_h) up_h) ⟨_, rfl, (u4 rfl hb_108)⟩ rfl ?_
  refine ar (ro_pickF (up_m rfl (u4 rfl hb_108)) up_h) rfl <| ae5 (up_m rfl (u4 rfl (u8 rfl s7_103))) (up_m rfl (u4 rfl (u8 rfl s14_103))) (up_m rfl (u4 rfl (u8 rfl s25_103))) (up_m rfl (u4 rfl (u8 rfl s27_103))) up_h ?_; clear hb_104 hb_108 s14_103 s25_103 s26_103 s27_103 s28_103 s7_103; intro e_112 s7_112 s14_112 s25_112 s27_112 s215_112
  refine then_n <| aw_case s215_112 (fun hq_113 => ?_) (fun hq_113 => ?_)
  ·replace hq_113 := bnt hq_113; exfalso; omega
  replace hq_113 := bnf hq_113
  refine aw_skip <| then_n <| aw_seq <| aw_seq <| at_ <| ar (ro_assign ev_c) rfl <| ae5 (up_m rfl s7_112) (up_m rfl s14_112) (up_m rfl s25_112) (up_m rfl s27_112) up_h ?_; clear s14_112 s215_112 s25_112 s27_112 s7_112; intro e_115 s7_115 s14_115 s25_115 s27_115 s29_115
  refine then_n <| aw_block <| aw_loop (S := Int) (fun j e mem => (evA e (.tmp 29) = .v (.int .i64 j)) ∧ (evA e (.tmp 7) = evA e_115 (.tmp 7)) ∧ (evA e (.tmp 14) = evA e_115 (.tmp 14)) ∧ (evA e (.tmp 25) = evA e_115 (.tmp 25)) ∧ (evA e (.tmp 27) = evA e_115 (.tmp 27)) ∧ (mem[n_55 + 1 + 1]? = m_85[n_55 + 1 + 1]?) ∧ (mem[n_55 + 1]? = m_85[n_55 + 1]?) ∧ (mem[n_55]? = m_85[n_55]?) ∧ (mem[4]? = m_85[4]?) ∧ (mem[3]? = m_85[3]?) ∧ (mem[2]? = m_85[2]?) ∧ (mem[1]? = m_85[1]?) ∧ (mem[0]? = m_85[0]?) ∧ (mem.length = n_55 + 1 + 1 + 1) ∧ ((1 ≤ j ∧ j ≤ A.length + 1))) (fun j => (A.length + 1 - j).toNat) _ ⟨s29_115, rfl, rfl, rfl, rfl, rfl, rfl, rfl, rfl, rfl, rfl, rfl, rfl, ml_85, ?_⟩ ?_
  ·(exact ⟨by omega, by omega⟩)
  ·rintro j e_116 m_116 ⟨s29_116, k7_116, k14_116, k25_116, k27_116, mkn_55_1_1_116, mkn_55_1_116, mkn_55_116, mk4_116, mk3_116, mk2_116, mk1_116, mk0_116, ml_116, hinv⟩
   have s7_116 := k7_116.trans s7_115
   have s14_116 := k14_116.trans s14_115
   have s25_116 := k25_116.trans s25_115
   have s27_116 := k27_116.trans s27_115
   have mon_55_1_1_116 := mkn_55_1_1_116.trans mon_55_1_1_85
   have mon_55_1_116 := mkn_55_1_116.trans mon_55_1_85
   have mon_55_116 := mkn_55_116.trans mon_55_85
   have mo4_116 := mk4_116.trans mo4_85
   have mo3_116 := mk3_116.trans mo3_85
   have mo2_116 := mk2_116.trans mo2_85
   have mo1_116 := mk1_116.trans mo1_85
   have mo0_116 := mk0_116.trans mo0_85
   (obtain ⟨j1, j2⟩ := hinv)
   refine aw_seq <| aw_seq <| at_ <| ar (ro_move s29_116) rfl <| ar (ro_move (up_m rfl s25_116)) rfl <| ar (ro_eq (ro_len_row up_h rfl y89_sl40.1) (by simp only [lnS] <;> rfl)) rfl ?_
   refine ar (ro_leq (u2 rfl up_h) up_h) rfl <| ar (ro_move up_h) rfl <| al_case up_h (fun hb_117 hq_117 => ?_) (fun hb_117 hq_117 => ?_)
   ·replace hq_117 := bt hq_117
    refine al_ro' (ro_move (up_m rfl (u4 rfl s29_116))) ⟨_, rfl, hb_117⟩ rfl ?_
    refine al_ro' (ro_move (u2 rfl (u4 rfl s27_116))) ⟨_, rfl, (up_m rfl hb_117)⟩ rfl ?_
    refine al_ro' (ro_eq (ro_len_row up_h rfl y89_sl40.1) (by simp only [lnS] <;> rfl)) ⟨_, rfl, (u2 rfl hb_117)⟩ rfl ?_
    refine al_ro' (ro_leq (u2 rfl up_h) up_h) ⟨_, rfl, (up_m rfl (u2 rfl hb_117))⟩ rfl ?_
    refine ar (ro_pickT (u4 rfl hb_117) up_h) rfl <| ae6 (u2 rfl (u8 rfl s7_116)) (u2 rfl (u8 rfl s14_116)) (u2 rfl (u8 rfl s25_116)) (u2 rfl (u8 rfl s27_116)) (u2 rfl (u8 rfl s29_116)) up_h ?_; clear hb_117 s14_116 s25_116 s27_116 s29_116 s7_116; intro e_118 s7_118 s14_118 s25_118 s27_118 s29_118 s225_118
    refine then_n <| aw_case s225_118 (fun hq_119 => ?_) (fun hq_119 => ?_)
    ·replace hq_119 := bt hq_119
     refine aw_skip <| then_n <| aw_seq <| aw_block <| aw_seq <| aw_draw 21 (by kernel_rfl) (by kernel_rfl) (by kernel_rfl) (by kernel_rfl) ?_
     refine dr (ro_move s29_118) rfl <| dr (ro_fld_ptr qfl47_1 rfl (up_m rfl s7_118)) rfl <| dr (ro_eq (ro_ld_ptr y89_ty3 rfl mo1_116 up_h (nle rfl)) (by simp only [pS, Value.cells, Nat.reduceAdd, frA, swE, ht] <;> rfl)) rfl ?_
     (refine dr (ro_sub' up_h ev_c ?_) rfl ?_; · (unfold In64; omega))
     refine dr (ro_move (u4 rfl s14_118)) rfl ?_
     (refine dr (ro_add' up_h ev_c ?_) rfl ?_; · (unfold In64; omega))
     refine dr (ro_call (evL_cons (up_m rfl (u4 rfl up_h)) (evL_cons (u2 rfl up_h) (evL_cons up_h evL_nil))) rfl (bWithin_ok _ _ _) qhcf16) rfl <| dr (ro_not up_h) rfl <| dr (ro_move up_h) rfl <| ds_case up_h (fun hb_120 hq_120 => ?_) (fun hb_120 hq_120 => ?_)
     ·replace hq_120 := bt' hq_120
      refine ds_ro' (ro_move (up_m rfl (u8 rfl s25_118))) ⟨_, rfl, hb_120⟩ rfl ?_
      refine ds_ro' (ro_move (u2 rfl (u8 rfl s29_118))) ⟨_, rfl, (up_m rfl hb_120)⟩ rfl ?_
      (refine ds_ro' (ro_sub' up_h ev_c ?_) ⟨_, rfl, (u2 rfl hb_120)⟩ rfl ?_; · (unfold In64; omega))
      refine ds_ro' (ro_eq (ro_ix y89_sl40 (u2 rfl up_h) up_h (by omega) (by first | (refine idx_map ?_; first | omega | (simp only [lnS]; omega)) | (refine idx_mapI ?_; first | omega | (simp only [lnS]; omega)) | (refine idx_mapN ?_; first | omega | (simp only [lnS]; omega)) | rfl)) (by simp only [pS, Value.cells, Nat.reduceAdd, frA, swE, ht] <;> rfl)) ⟨_, rfl, (up_m rfl (u2 rfl hb_120))⟩ rfl ?_
      refine ds_ro' (ro_eq (ro_ld_ref y89_ty3 rfl up_h (nle rfl)) (by simp only [pS, Value.cells, Nat.reduceAdd, frA, swE, ht] <;> rfl)) ⟨_, rfl, (u4 rfl hb_120)⟩ rfl ?_
      refine ds_ro' (ro_move (u2 rfl (u4 rfl (u8 rfl s27_118)))) ⟨_, rfl, (up_m rfl (u4 rfl hb_120))⟩ rfl ?_
      refine ds_ro' (ro_move (up_m rfl (u2 rfl (u4 rfl (u8 rfl s29_118))))) ⟨_, rfl, (u2 rfl (u4 rfl hb_120))⟩ rfl ?_
      (refine ds_ro' (ro_sub' up_h ev_c ?_) ⟨_, rfl, (up_m rfl (u2 rfl (u4 rfl hb_120)))⟩ rfl ?_; · (unfold In64; omega))
      refine ds_ro' (ro_eq (ro_ix y89_sl40 (u2 rfl up_h) up_h (by omega) (by first | (refine idx_map ?_; first | omega | (simp only [lnS]; omega)) | (refine idx_mapI ?_; first | omega | (simp only [lnS]; omega)) | (refine idx_mapN ?_; first | omega | (simp only [lnS]; omega)) | rfl)) (by simp only [pS, Value.cells, Nat.reduceAdd, frA, swE, ht] <;> rfl)) ⟨_, rfl, (u8 rfl hb_120)⟩ rfl ?_
      refine ds_ro' (ro_eq (ro_ld_ref y89_ty3 rfl up_h (nle rfl)) (by simp only [pS, Value.cells, Nat.reduceAdd, frA, swE, ht] <;> rfl)) ⟨_, rfl, (up_m rfl (u8 rfl hb_120))⟩ rfl ?_
      refine ds_ro' (ro_neq (up_m rfl (u4 rfl up_h)) up_h) ⟨_, rfl, (u2 rfl (u8 rfl hb_120))⟩ rfl ?_
      refine dr (ro_pickT (up_m rfl (u2 rfl (u8 rfl hb_120))) up_h) rfl <| ds_nil <| ae6 (up_m rfl (u4 rfl (u16 rfl s7_118))) (up_m rfl (u4 rfl (u16 rfl s14_118))) (up_m rfl (u4 rfl (u16 rfl s25_118))) (up_m rfl (u4 rfl (u16 rfl s27_118))) (up_m rfl (u4 rfl (u16 rfl s29_118))) up_h ?_; clear hb_120 s14_118 s225_118 s25_118 s27_118 s29_118 s7_118; intro e_121 s7_121 s14_121 s25_121 s27_121 s29_121 s248_121
      refine then_n <| aw_case s248_121 (fun hq_122 => ?_) (fun hq_122 => ?_)
      ·replace hq_122 := bnt hq_122
       refine aw_seq <| at_ <| ar (ro_assign ev_c) rfl <| ae1 up_h ?_; clear s14_121 s248_121 s25_121 s27_121 s29_121 s7_121; intro e_123 s6_123
       refine then_n <| aw_ret <| block_r <| then_r <| then_r <| block_r <| then_r <| ret1 (.inr rfl) (by kernel_rfl) (resV_tmp s6_123) (.ro _ rfl) ?_
       clear s6_123 mon_55_1_1_116 mon_55_1_116 mon_55_116 mo4_116 mo3_116 mo2_116 mo1_116 mo0_116 ml_116
       first | rfl | (simp_all; done) | omega
      replace hq_122 := bnf hq_122
      refine aw_skip <| block_n <| then_n <| at_ <| ar (ro_move s29_121) rfl ?_
      (refine ar (ro_add' up_h ev_c ?_) rfl ?_; · (unfold In64; omega))
      refine ar (ro_assign up_h) rfl <| ae5 (up_m rfl (u2 rfl s7_121)) (up_m rfl (u2 rfl s14_121)) (up_m rfl (u2 rfl s25_121)) (up_m rfl (u2 rfl s27_121)) up_h ?_; clear s14_121 s248_121 s25_121 s27_121 s29_121 s7_121; intro e_124 s7_124 s14_124 s25_124 s27_124 s29_124
      refine then_n <| ⟨_, ⟨s29_124, (s7_124.trans s7_115.symm), (s14_124.trans s14_115.symm), (s25_124.trans s25_115.symm), (s27_124.trans s27_115.symm), (mon_55_1_1_116.trans mon_55_1_1_85.symm), (mon_55_1_116.trans mon_55_1_85.symm), (mon_55_116.trans mon_55_85.symm), (mo4_116.trans mo4_85.symm), (mo3_116.trans mo3_85.symm), (mo2_116.trans mo2_85.symm), (mo1_116.trans mo1_85.symm), (mo0_116.trans mo0_85.symm), ml_116, ?_⟩, ?_⟩
      ·(exact ⟨by omega, by omega⟩)
      ·((try dsimp only); omega)
     replace hq_120 := bf' hq_120
     refine ds_skip' ⟨_, rfl, .inl hb_120⟩ rfl ?_
     refine ds_skip' ⟨_, rfl, .inl (up_m rfl hb_120)⟩ rfl ?_
     refine ds_skip' ⟨_, rfl, .inl (u2 rfl hb_120)⟩ rfl ?_
     refine ds_skip' ⟨_, rfl, .inl (up_m rfl (u2 rfl hb_120))⟩ rfl ?_
     refine ds_skip' ⟨_, rfl, .inl (u4 rfl hb_120)⟩ rfl ?_
     refine ds_skip' ⟨_, rfl, .inl (up_m rfl (u4 rfl hb_120))⟩ rfl ?_
     refine ds_skip' ⟨_, rfl, .inl (u2 rfl (u4 rfl hb_120))⟩ rfl ?_
     refine ds_skip' ⟨_, rfl, .inl (up_m rfl (u2 rfl (u4 rfl hb_120)))⟩ rfl ?_
     refine ds_skip' ⟨_, rfl, .inl (u8 rfl hb_120)⟩ rfl ?_
     refine ds_skip' ⟨_, rfl, .inl (up_m rfl (u8 rfl hb_120))⟩ rfl ?_
     refine ds_skip' ⟨_, rfl, .inl (u2 rfl (u8 rfl hb_120))⟩ rfl ?_
     refine dr (ro_pickF (up_m rfl (u2 rfl (u8 rfl hb_120))) ev_c) rfl <| ds_nil <| ae6 (up_m rfl (u4 rfl (u16 rfl s7_118))) (up_m rfl (u4 rfl (u16 rfl s14_118))) (up_m rfl (u4 rfl (u16 rfl s25_118))) (up_m rfl (u4 rfl (u16 rfl s27_118))) (up_m rfl (u4 rfl (u16 rfl s29_118))) up_h ?_; clear hb_120 s14_118 s225_118 s25_118 s27_118 s29_118 s7_118; intro e_125 s7_125 s14_125 s25_125 s27_125 s29_125 s248_125
     refine then_n <| aw_false s248_125 <| aw_skip <| block_n <| then_n <| at_ <| ar (ro_move s29_125) rfl ?_
     (refine ar (ro_add' up_h ev_c ?_) rfl ?_; · (unfold In64; omega))
     refine ar (ro_assign up_h) rfl <| ae5 (up_m rfl (u2 rfl s7_125)) (up_m rfl (u2 rfl s14_125)) (up_m rfl (u2 rfl s25_125)) (up_m rfl (u2 rfl s27_125)) up_h ?_; clear s14_125 s248_125 s25_125 s27_125 s29_125 s7_125; intro e_127 s7_127 s14_127 s25_127 s27_127 s29_127
     refine then_n <| ⟨_, ⟨s29_127, (s7_127.trans s7_115.symm), (s14_127.trans s14_115.symm), (s25_127.trans s25_115.symm), (s27_127.trans s27_115.symm), (mon_55_1_1_116.trans mon_55_1_1_85.symm), (mon_55_1_116.trans mon_55_1_85.symm), (mon_55_116.trans mon_55_85.symm), (mo4_116.trans mo4_85.symm), (mo3_116.trans mo3_85.symm), (mo2_116.trans mo2_85.symm), (mo1_116.trans mo1_85.symm), (mo0_116.trans mo0_85.symm), ml_116, ?_⟩, ?_⟩
     ·(exact ⟨by omega, by omega⟩)
     ·((try dsimp only); omega)
    ·replace hq_119 := bf hq_119; exfalso; omega
   replace hq_117 := bf hq_117
   refine al_skip' ⟨_, rfl, .inl hb_117⟩ rfl ?_
   refine al_skip' ⟨_, rfl, .inl (up_m rfl hb_117)⟩ rfl ?_
   refine al_skip' ⟨_, rfl, .inl (u2 rfl hb_117)⟩ rfl ?_
   refine al_skip' ⟨_, rfl, .inl (up_m rfl (u2 rfl hb_117))⟩ rfl ?_
   refine ar (ro_pickF (u4 rfl hb_117) ev_c) rfl <| ae6 (u2 rfl (u8 rfl s7_116)) (u2 rfl (u8 rfl s14_116)) (u2 rfl (u8 rfl s25_116)) (u2 rfl (u8 rfl s27_116)) (u2 rfl (u8 rfl s29_116)) up_h ?_; clear hb_117 s14_116 s25_116 s27_116 s29_116 s7_116; intro e_129 s7_129 s14_129 s25_129 s27_129 s29_129 s225_129
   refine then_n <| aw_false s225_129 <| aw_exit <| then_x <| then_x <| block_hit <| then_n <| aw_seq <| at_ <| ar (ro_assign ev_c) rfl <| ae1 up_h ?_; clear s14_129 s225_129 s25_129 s27_129 s29_129 s7_129; intro e_131 s6_131
   refine then_n <| aw_ret <| ret1 (.inr rfl) (by kernel_rfl) (resV_tmp s6_131) (.ro _ rfl) ?_
   clear s6_131 mon_55_1_1_116 mon_55_1_116 mon_55_116 mo4_116 mo3_116 mo2_116 mo1_116 mo0_116 ml_116
   first | rfl | (simp_all; done) | omega
theorem topLineBranches_ok (l : Lin) (n p : Int) : FnOk Try.prog 4 [lnA l, mA n, mA p] (fun q => q = tbA true) := by
 cases hf : fewL l with
 | false => exact topLineBranches_many l hf n p
 | true =>
  by_cases hg : (linM l).2 = 0
  ·cases hw : withinB n 0 (l.ss.length - 1) with
   | false => exact topLineBranches_out l hf hg n p hw
   | true =>
    by_cases hp : plaE l p = 0
    ·have hr := rgt_of hg
     have hw2 := withinB_iff.1 hw
     have hfit := fit_of hr (i := n.toNat) (by omega)
     refine topLineBranches_in l hf hg n p hw hp _ rfl _ _ _ _ rfl rfl _ _ rfl rfl fun j h1 h2 h3 => ?_
     rw [limL_len] at h2
     have h4 : ¬ ((l.ss.getD n.toNat default).fst - 1 ≤ j ∧ j ≤ (l.ss.getD n.toNat default).fst + (l.ss.getD n.toNat default).acr.length - 1 + 1) := fun h => by
      rw [← withinB_iff, h3] at h; cases h
     have hff := hfit.f1
     have hfi := hfit.in_
     have hjs := hr.js
     rw [limL_at _ _ (by omega), limL_at _ _ (by omega), bra_lim hr hfit (by omega) (by omega)]
    ·exact topLineBranches_far l hf hg n p hw hp
  ·exact topLineBranches_bad l hf hg n p
end Go.Proofs.Ytjhcfpdgldpicaa
