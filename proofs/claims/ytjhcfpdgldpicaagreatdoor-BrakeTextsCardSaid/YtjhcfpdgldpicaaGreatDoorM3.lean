/- Texts of this claim, one behind the other: lemmas for the statement. -/
import Derived.Test.YtjhcfpdgldpicaaGreatDoorT0
import Derived.Test.YtjhcfpdgldpicaaGreatDoorA12
import Derived.Test.YtjhcfpdgldpicaaGreatDoorProg
import Derived.Test.YtjhcfpdgldpicaaGreatDoorA16
import Derived.Test.YtjhcfpdgldpicaaGreatDoorA17
set_option linter.unusedSimpArgs false
set_option linter.unusedVariables false
namespace Go.Proofs.YtjhcfpdgldpicaaGreatDoor
open Go Go.RowKit Go.Proofs
theorem k1_sl219 : SlIs Tryz.prog 219 29 1 8 (.int .i64 0) := ⟨by kernel_rfl, by kernel_rfl, by kernel_rfl⟩
theorem k1_ty29 : TyIs Tryz.prog 29 false 1 := ⟨by kernel_rfl, by kernel_rfl⟩
def withinB (n lo hi : Int) : Bool := decide (lo ≤ n) && decide (n ≤ hi)
set_option maxRecDepth 100000 in
set_option maxHeartbeats 1000000 in
theorem within_ok (n lo hi : Int) : FnOk Tryz.prog 110 [.v (.int .i64 n), .v (.int .i64 lo), .v (.int .i64 hi)] (fun q => q = .v (.bool (withinB n lo hi))) := by
 refine fnOk_of (fn := Tryz.f110) 15 (by kernel_rfl) rfl (by kernel_rfl) (Nat.le_of_ble_eq_true rfl) ?_
 intro e_0 m_0 hA hm_0
 have s0_0 : evA e_0 (.tmp 0) = _ := hA 0 _ rfl
 have s1_0 : evA e_0 (.tmp 1) = _ := hA 1 _ rfl
 have s2_0 : evA e_0 (.tmp 2) = _ := hA 2 _ rfl
 have ml_0 : m_0.length = 0 := by rw [hm_0]; rfl
 clear hA hm_0
 refine aw_seq <| at_ <| ar (ro_assign ev_c) rfl <| ae3 (up_m rfl s0_0) (up_m rfl s1_0) (up_m rfl s2_0) ?_; clear s0_0 s1_0 s2_0; intro e_1 s0_1 s1_1 s2_1
 refine then_n <| aw_seq <| at_ <| ar (ro_move s1_1) rfl <| ar (ro_move (up_m rfl s0_1)) rfl <| ar (ro_leq (up_m rfl up_h) up_h) rfl <| ar (ro_move up_h) rfl <| al_case up_h (fun hb_2 hq_2 => ?_) (fun hb_2 hq_2 => ?_)
 ·replace hq_2 := bt hq_2
  refine al_ro' (ro_move (u4 rfl s0_1)) ⟨_, rfl, hb_2⟩ rfl ?_
  refine al_ro' (ro_move (up_m rfl (u4 rfl s2_1))) ⟨_, rfl, (up_m rfl hb_2)⟩ rfl ?_
  refine al_ro' (ro_leq (up_m rfl up_h) up_h) ⟨_, rfl, (u2 rfl hb_2)⟩ rfl ?_
  refine ar (ro_pickT (up_m rfl (u2 rfl hb_2)) up_h) rfl <| ar (ro_assign up_h) rfl <| ae1 up_h ?_; clear hb_2 s0_1 s1_1 s2_1; intro e_3 s6_3
  refine then_n <| aw_ret <| ret1 (.inr rfl) (by kernel_rfl) (resV_tmp s6_3) (.ro _ rfl) ?_
  clear s6_3 ml_0
  (first | rfl | (simp [withinB, *]; done) | (simp [withinB, *] <;> omega) | (simp_all [withinB]; done) | (simp_all [withinB] <;> omega))
 replace hq_2 := bf hq_2
 refine al_skip' ⟨_, rfl, .inl hb_2⟩ rfl ?_
 refine al_skip' ⟨_, rfl, .inl (up_m rfl hb_2)⟩ rfl ?_
 refine al_skip' ⟨_, rfl, .inl (u2 rfl hb_2)⟩ rfl ?_
 refine ar (ro_pickF (up_m rfl (u2 rfl hb_2)) ev_c) rfl <| ar (ro_assign up_h) rfl <| ae1 up_h ?_; clear hb_2 s0_1 s1_1 s2_1; intro e_4 s6_4
 refine then_n <| aw_ret <| ret1 (.inr rfl) (by kernel_rfl) (resV_tmp s6_4) (.ro _ rfl) ?_
 clear s6_4 ml_0
 (first | rfl | (simp [withinB, *]; done) | (simp [withinB, *] <;> omega) | (simp_all [withinB]; done) | (simp_all [withinB] <;> omega))
set_option maxRecDepth 100000 in
set_option maxHeartbeats 1000000 in
theorem bWithin_ok (n lo hi : Int) : FnOk Tryz.prog 30 [.v (.int .i64 n), .v (.int .i64 lo), .v (.int .i64 hi)] (fun q => q = .v (.bool (withinB n lo hi))) := by
 refine fnOk_of (fn := Tryz.f30) 15 (by kernel_rfl) rfl (by kernel_rfl) (Nat.le_of_ble_eq_true rfl) ?_
 intro e_0 m_0 hA hm_0
 have s0_0 : evA e_0 (.tmp 0) = _ := hA 0 _ rfl
 have s1_0 : evA e_0 (.tmp 1) = _ := hA 1 _ rfl
 have s2_0 : evA e_0 (.tmp 2) = _ := hA 2 _ rfl
 have ml_0 : m_0.length = 0 := by rw [hm_0]; rfl
 clear hA hm_0
 refine aw_seq <| at_ <| ar (ro_assign ev_c) rfl <| ae3 (up_m rfl s0_0) (up_m rfl s1_0) (up_m rfl s2_0) ?_; clear s0_0 s1_0 s2_0; intro e_1 s0_1 s1_1 s2_1
 refine then_n <| aw_seq <| at_ <| ar (ro_move s1_1) rfl <| ar (ro_move (up_m rfl s0_1)) rfl <| ar (ro_leq (up_m rfl up_h) up_h) rfl <| ar (ro_move up_h) rfl <| al_case up_h (fun hb_2 hq_2 => ?_) (fun hb_2 hq_2 => ?_)
 ·replace hq_2 := bt hq_2
  refine al_ro' (ro_move (u4 rfl s0_1)) ⟨_, rfl, hb_2⟩ rfl ?_
  refine al_ro' (ro_move (up_m rfl (u4 rfl s2_1))) ⟨_, rfl, (up_m rfl hb_2)⟩ rfl ?_
  refine al_ro' (ro_leq (up_m rfl up_h) up_h) ⟨_, rfl, (u2 rfl hb_2)⟩ rfl ?_
  refine ar (ro_pickT (up_m rfl (u2 rfl hb_2)) up_h) rfl <| ar (ro_assign up_h) rfl <| ae1 up_h ?_; clear hb_2 s0_1 s1_1 s2_1; intro e_3 s6_3
  refine then_n <| aw_ret <| ret1 (.inr rfl) (by kernel_rfl) (resV_tmp s6_3) (.ro _ rfl) ?_
  clear s6_3 ml_0
  (first | rfl | (simp [withinB, *]; done) | (simp [withinB, *] <;> omega) | (simp_all [withinB]; done) | (simp_all [withinB] <;> omega))
 replace hq_2 := bf hq_2
 refine al_skip' ⟨_, rfl, .inl hb_2⟩ rfl ?_
 refine al_skip' ⟨_, rfl, .inl (up_m rfl hb_2)⟩ rfl ?_
 refine al_skip' ⟨_, rfl, .inl (u2 rfl hb_2)⟩ rfl ?_
 refine ar (ro_pickF (up_m rfl (u2 rfl hb_2)) ev_c) rfl <| ar (ro_assign up_h) rfl <| ae1 up_h ?_; clear hb_2 s0_1 s1_1 s2_1; intro e_4 s6_4
 refine then_n <| aw_ret <| ret1 (.inr rfl) (by kernel_rfl) (resV_tmp s6_4) (.ro _ rfl) ?_
 clear s6_4 ml_0
 (first | rfl | (simp [withinB, *]; done) | (simp [withinB, *] <;> omega) | (simp_all [withinB]; done) | (simp_all [withinB] <;> omega))
def unlessE (ok : Bool) (e : Int) : Int := if ok then 0 else e
set_option maxRecDepth 100000 in
set_option maxHeartbeats 1000000 in
theorem unless_ok (ok : Bool) (e : Int) : FnOk Tryz.prog 93 [.v (.bool ok), .v (.int .i64 e)] (fun q => q = .v (.int .i64 (unlessE ok e))) := by
 refine fnOk_of (fn := Tryz.f93) 7 (by kernel_rfl) rfl (by kernel_rfl) (Nat.le_of_ble_eq_true rfl) ?_
 intro e_0 m_0 hA hm_0
 have s0_0 : evA e_0 (.tmp 0) = _ := hA 0 _ rfl
 have s1_0 : evA e_0 (.tmp 1) = _ := hA 1 _ rfl
 have ml_0 : m_0.length = 0 := by rw [hm_0]; rfl
 clear hA hm_0
 refine aw_seq <| at_ <| ar (ro_assign ev_c) rfl <| ae2 (up_m rfl s0_0) (up_m rfl s1_0) ?_; clear s0_0 s1_0; intro e_1 s0_1 s1_1
 refine then_n <| aw_seq <| aw_seq <| at_ <| ar (ro_move s0_1) rfl <| ae2 (up_m rfl s1_1) up_h ?_; clear s0_1 s1_1; intro e_2 s1_2 s5_2
 refine then_n <| aw_case s5_2 (fun hq_3 => ?_) (fun hq_3 => ?_)
 ·skip
  refine aw_seq <| at_ <| ar (ro_assign ev_c) rfl <| ae1 up_h ?_; clear s1_2 s5_2; intro e_4 s4_4
  refine then_n <| aw_ret <| then_r <| ret1 (.inr rfl) (by kernel_rfl) (resV_tmp s4_4) (.ro _ rfl) ?_
  clear s4_4 ml_0
  (first | rfl | (simp [unlessE, *]; done) | (simp [unlessE, *] <;> omega) | (simp_all [unlessE]; done) | (simp_all [unlessE] <;> omega))
 refine aw_skip <| then_n <| aw_seq <| at_ <| ar (ro_move s1_2) rfl <| ar (ro_assign up_h) rfl <| ae1 up_h ?_; clear s1_2 s5_2; intro e_5 s4_5
 refine then_n <| aw_ret <| ret1 (.inr rfl) (by kernel_rfl) (resV_tmp s4_5) (.ro _ rfl) ?_
 clear s4_5 ml_0
 (first | rfl | (simp [unlessE, *]; done) | (simp [unlessE, *] <;> omega) | (simp_all [unlessE]; done) | (simp_all [unlessE] <;> omega))
def firstE : List Int → Int
 | [] => 0
 | e :: l => if e = 0 then firstE l else e
theorem firstE_drop {l : List Int} {i : Nat} (h : i < l.length) : firstE (l.drop i) = if l.getD i 0 = 0 then firstE (l.drop (i + 1)) else l.getD i 0 := by
 rw [List.drop_eq_getElem_cons h]
 simp [firstE, List.getD_eq_getElem?_getD, h]
set_option maxRecDepth 100000 in
set_option maxHeartbeats 1000000 in
theorem first_ok (l : List Int) (hl : l.length ≤ 1000) : FnOk Tryz.prog 85 [.row 1 (l.map iE)] (fun q => q = .v (.int .i64 (firstE l))) := by
 refine fnOk_of (fn := Tryz.f85) 15 (by kernel_rfl) rfl (by kernel_rfl) (Nat.le_of_ble_eq_true rfl) ?_
 intro e_0 m_0 hA hm_0
 have s0_0 : evA e_0 (.tmp 0) = _ := hA 0 _ rfl
 have ml_0 : m_0.length = 0 := by rw [hm_0]; rfl
 clear hA hm_0
 refine aw_seq <| at_ <| ar (ro_assign ev_c) rfl <| ae1 (up_m rfl s0_0) ?_; clear s0_0; intro e_1 s0_1
 refine then_n <| aw_seq <| aw_seq <| at_ <| ar (ro_move s0_1) rfl <| ar (ro_eq (ro_len_row up_h rfl k1_sl219.1) (by simp only [lnS] <;> rfl)) rfl ?_
 refine ar (ro_move ev_c) rfl <| ae3 (u2 rfl up_h) (up_m rfl up_h) up_h ?_; clear s0_1; intro e_2 s5_2 s6_2 s7_2
 refine then_n <| aw_block <| aw_loop (S := Int) (fun i e mem => (evA e (.tmp 7) = .v (.int .i64 i)) ∧ (evA e (.tmp 5) = evA e_2 (.tmp 5)) ∧ (evA e (.tmp 6) = evA e_2 (.tmp 6)) ∧ (mem.length = 0) ∧ ((0 ≤ i ∧ i ≤ l.length ∧ firstE (l.drop i.toNat) = firstE l))) (fun i => (l.length - i).toNat) _ ⟨s7_2, rfl, rfl, ml_0, ?_⟩ ?_
 ·exact ⟨by omega, by omega, rfl⟩
 ·rintro i e_3 m_3 ⟨s7_3, k5_3, k6_3, ml_3, hinv⟩
  have s5_3 := k5_3.trans s5_2
  have s6_3 := k6_3.trans s6_2
  refine aw_seq <| at_ <| ar (ro_lss s7_3 s6_3) rfl <| ae4 (up_m rfl s5_3) (up_m rfl s6_3) (up_m rfl s7_3) up_h ?_; clear s5_3 s6_3 s7_3; intro e_4 s5_4 s6_4 s7_4 s8_4
  refine then_n <| aw_seq <| aw_case s8_4 (fun hq_5 => ?_) (fun hq_5 => ?_)
  ·replace hq_5 := bt hq_5
   refine aw_skip <| then_n <| aw_seq <| aw_block <| aw_seq <| at_ <| ar (ro_eq (ro_ix k1_sl219 s5_4 s7_4 (by omega) (by first | (refine idx_map ?_; first | omega | (simp only [lnS]; omega)) | (refine idx_mapI ?_; first | omega | (simp only [lnS]; omega)) | (refine idx_mapN ?_; first | omega | (simp only [lnS]; omega)) | rfl)) (by simp only [pS, Value.cells, Nat.reduceAdd] <;> rfl)) rfl ?_
   refine ar (ro_eq (ro_ld_ref k1_ty29 rfl up_h (nle rfl)) (by simp only [pS, Value.cells, Nat.reduceAdd] <;> rfl)) rfl ?_
   refine ar (ro_assign up_h) rfl <| ae4 up_h (up_m rfl (u2 rfl s5_4)) (up_m rfl (u2 rfl s6_4)) (up_m rfl (u2 rfl s7_4)) ?_; clear s5_4 s6_4 s7_4 s8_4; intro e_6 s4_6 s5_6 s6_6 s7_6
   refine then_n <| aw_seq <| at_ <| ar (ro_move s4_6) rfl <| ar (ro_neq up_h ev_c) rfl <| ae5 (u2 rfl s4_6) (u2 rfl s5_6) (u2 rfl s6_6) (u2 rfl s7_6) up_h ?_; clear s4_6 s5_6 s6_6 s7_6; intro e_7 s4_7 s5_7 s6_7 s7_7 s12_7
   refine then_n <| aw_case s12_7 (fun hq_8 => ?_) (fun hq_8 => ?_)
   ·replace hq_8 := bnt hq_8
    refine aw_seq <| at_ <| ar (ro_move s4_7) rfl <| ar (ro_assign up_h) rfl <| ae1 up_h ?_; clear s12_7 s4_7 s5_7 s6_7 s7_7; intro e_9 s2_9
    refine then_n <| aw_ret <| block_r <| then_r <| then_r <| block_r <| then_r <| ret1 (.inr rfl) (by kernel_rfl) (resV_tmp s2_9) (.ro _ rfl) ?_
    clear s2_9 ml_3
    obtain ⟨h1, h2, h3⟩ := hinv; rw [← h3, firstE_drop (i := i.toNat) (by omega), if_neg (by assumption)]; rfl
   replace hq_8 := bnf hq_8
   refine aw_skip <| block_n <| then_n <| at_ ?_
   (refine ar (ro_add' s7_7 ev_c ?_) rfl ?_; · (unfold In64; omega))
   refine ar (ro_move up_h) rfl <| ae3 (u2 rfl s5_7) (u2 rfl s6_7) up_h ?_; clear s12_7 s4_7 s5_7 s6_7 s7_7; intro e_10 s5_10 s6_10 s7_10
   refine then_n <| ⟨_, ⟨s7_10, (s5_10.trans s5_2.symm), (s6_10.trans s6_2.symm), ml_3, ?_⟩, ?_⟩
   ·(obtain ⟨h1, h2, h3⟩ := hinv; refine ⟨by omega, by omega, ?_⟩; rw [← h3, firstE_drop (i := i.toNat) (by omega), if_pos (by assumption)]; congr 2; omega)
   ·((try dsimp only); omega)
  replace hq_5 := bf hq_5
  refine aw_exit <| then_x <| then_x <| block_hit <| then_n <| aw_seq <| at_ <| ar (ro_assign ev_c) rfl <| ae1 up_h ?_; clear s5_4 s6_4 s7_4 s8_4; intro e_11 s2_11
  refine then_n <| aw_ret <| ret1 (.inr rfl) (by kernel_rfl) (resV_tmp s2_11) (.ro _ rfl) ?_
  clear s2_11 ml_3
  obtain ⟨h1, h2, h3⟩ := hinv; rw [← h3, List.drop_eq_nil_of_le (by omega)]; rfl
set_option maxRecDepth 100000 in
set_option maxHeartbeats 1000000 in
theorem isSquare_ok (n : Int) : FnOk Tryz.prog 94 [.v (.int .i64 n)] (fun q => q = .v (.bool (withinB n 0 20000000000))) := by
 refine fnOk_of (fn := Tryz.f94) 5 (by kernel_rfl) rfl (by kernel_rfl) (Nat.le_of_ble_eq_true rfl) ?_
 intro e_0 m_0 hA hm_0
 have s0_0 : evA e_0 (.tmp 0) = _ := hA 0 _ rfl
 have ml_0 : m_0.length = 0 := by rw [hm_0]; rfl
 clear hA hm_0
 refine aw_seq <| at_ <| ar (ro_assign ev_c) rfl <| ae1 (up_m rfl s0_0) ?_; clear s0_0; intro e_1 s0_1
 refine then_n <| aw_seq <| at_ <| ar (ro_move s0_1) rfl <| ar (ro_call (evL_cons up_h (evL_cons ev_c (evL_cons ev_c evL_nil))) rfl (within_ok _ _ _) qhcf110) rfl <| ar (ro_assign up_h) rfl <| ae1 up_h ?_; clear s0_1; intro e_2 s2_2
 refine then_n <| aw_ret <| ret1 (.inr rfl) (by kernel_rfl) (resV_tmp s2_2) (.ro _ rfl) ?_
 clear s2_2 ml_0
 rfl
abbrev V2 := Int × Int
abbrev nA (n : Int) : AV := .v (.int .i64 n)
def sizeW (n : Int) : Int := max n (-n)
set_option maxRecDepth 100000 in
set_option maxHeartbeats 1000000 in
theorem bSize_ok (n : Int) (hm : -9000000000000000000 ≤ n ∧ n ≤ 9000000000000000000) : FnOk Tryz.prog 116 [nA n] (fun q => q = nA (sizeW n)) := by
 refine fnOk_of (fn := Tryz.f116) 7 (by kernel_rfl) rfl (by kernel_rfl) (Nat.le_of_ble_eq_true rfl) ?_
 intro e_0 m_0 hA hm_0
 have s0_0 : evA e_0 (.tmp 0) = _ := hA 0 _ rfl
 have ml_0 : m_0.length = 0 := by rw [hm_0]; rfl
 clear hA hm_0
 refine aw_seq <| at_ <| ar (ro_assign ev_c) rfl <| ae1 (up_m rfl s0_0) ?_; clear s0_0; intro e_1 s0_1
 refine then_n <| aw_seq <| at_ <| ar (ro_move s0_1) rfl <| ar (ro_move (up_m rfl s0_1)) rfl ?_
 (refine ar (ro_neg' up_h ?_) rfl ?_; · (unfold In64; omega))
 refine ar (ro_max (u2 rfl up_h) up_h) rfl <| ar (ro_assign up_h) rfl <| ae1 up_h ?_; clear s0_1; intro e_2 s2_2
 refine then_n <| aw_ret <| ret1 (.inr rfl) (by kernel_rfl) (resV_tmp s2_2) (.ro _ rfl) ?_
 clear s2_2 ml_0
 rfl
def Bd (M : Int) (v : V2) : Prop := (-M ≤ v.1 ∧ v.1 ≤ M) ∧ (-M ≤ v.2 ∧ v.2 ≤ M)
section
variable (u v : V2) (hu : Bd 1000000000 u) (hv : Bd 1000000000 v)
include hu hv
end
section
variable (v : V2) (hv : Bd 1000000000 v)
include hv
end
theorem Bd.mono {M K : Int} {v : V2} (h : Bd M v) (hk : M ≤ K) : Bd K v := by
 obtain ⟨⟨a, b⟩, c, d⟩ := h
 exact ⟨⟨by omega, by omega⟩, by omega, by omega⟩
end Go.Proofs.YtjhcfpdgldpicaaGreatDoor
namespace Go.Proofs.YtjhcfpdgldpicaaGreatDoor
open Go Go.RowKit Go.Proofs
theorem Bd.getD {M : Int} {xs : List V2} (h : ∀ v ∈ xs, Bd M v) (hM : 0 ≤ M) (i : Nat) : Bd M (xs.getD i default) := by
 rw [List.getD_eq_getElem?_getD]
 by_cases hi : i < xs.length
 ·rw [List.getElem?_eq_getElem hi]; exact h _ (List.getElem_mem hi)
 ·rw [List.getElem?_eq_none (by omega)]
  exact ⟨⟨by show -M ≤ 0; omega, by show (0 : Int) ≤ M; omega⟩, by show -M ≤ 0; omega, by show (0 : Int) ≤ M; omega⟩
end Go.Proofs.YtjhcfpdgldpicaaGreatDoor
