/- Texts of this claim, one behind the other: lemmas for the statement. -/
import Derived.Test.YtjhcfpdgldpicaaM10
import Derived.Test.YtjhcfpdgldpicaaA31
import Derived.Test.YtjhcfpdgldpicaaT0
import Derived.Test.YtjhcfpdgldpicaaM8
import Derived.Test.YtjhcfpdgldpicaaM9
import Derived.Test.YtjhcfpdgldpicaaA28
set_option linter.unusedSimpArgs false
set_option linter.unusedVariables false
namespace Go.Proofs.Ytjhcfpdgldpicaa
open Go Go.RowKit Go.Proofs
theorem Rgt.swi {l : Lin} (h : Rgt l) {i : Nat} (hi : i < l.ss.length) : 1 ≤ (l.ss.getD i default).fst ∧ 1 ≤ (l.ss.getD i default).acr.length ∧ (l.ss.getD i default).fst + (l.ss.getD i default).acr.length ≤ l.bs.length ∧ ∀ n ∈ (l.ss.getD i default).acr, -20000 ≤ n ∧ n ≤ 20000 := by
 have h1 := h.sa i hi
 unfold swiE at h1
 generalize l.ss.getD i default = t at h1
 split at h1
 ·cases h1
 split at h1
 ·cases h1
 split at h1
 ·cases h1
 split at h1
 ·cases h1
 split at h1
 ·cases h1
 rename_i _ _ g3 g4 g5
 have e4 : withinB t.fst 1 (l.bs.length - t.acr.length) = true := by simpa using g4
 have e5 := withinB_iff.1 e4
 refine ⟨e5.1, by omega, by omega, fun n hn => ?_⟩
 have e6 : smaB n 20000 = true := by
  apply Classical.byContradiction
  intro hc
  exact g5 (List.any_eq_true.2 ⟨n, hn, by simpa using hc⟩)
 exact withinB_iff.1 e6
theorem y66_sl22 : SlIs Try.prog 22 66 4 32 (.agg #[.int .i64 0, .int .i64 0, .int .i64 0, .int .i64 0]) := ⟨by kernel_rfl, by kernel_rfl, by kernel_rfl⟩
theorem y66_sl24 : SlIs Try.prog 24 47 3 48 (.agg #[.string ByteArray.empty, .int .i64 0, .slice none 0 0]) := ⟨by kernel_rfl, by kernel_rfl, by kernel_rfl⟩
theorem y66_sl40 : SlIs Try.prog 40 3 1 8 (.int .i64 0) := ⟨by kernel_rfl, by kernel_rfl, by kernel_rfl⟩
theorem y66_ty22 : TyIs Try.prog 22 false 1 := ⟨by kernel_rfl, by kernel_rfl⟩
theorem y66_ty24 : TyIs Try.prog 24 false 1 := ⟨by kernel_rfl, by kernel_rfl⟩
theorem y66_ty26 : TyIs Try.prog 26 true 4 := ⟨by kernel_rfl, by kernel_rfl⟩
theorem y66_ty3 : TyIs Try.prog 3 false 1 := ⟨by kernel_rfl, by kernel_rfl⟩
theorem y66_ty40 : TyIs Try.prog 40 false 1 := ⟨by kernel_rfl, by kernel_rfl⟩
theorem y66_ty47 : TyIs Try.prog 47 true 3 := ⟨by kernel_rfl, by kernel_rfl⟩
theorem y66_ty9 : TyIs Try.prog 9 false 1 := ⟨by kernel_rfl, by kernel_rfl⟩
def Jnt.at (j : Jnt) (n : Int) : Jnt := ⟨n, j.up, j.lo, j.hi⟩
def bendN (js : List Jnt) (f : Int) (xs : List Int) : Nat → List Jnt
 | 0 => js
 | n + 1 => (bendN js f xs n).set (f + n).toNat (((bendN js f xs n).getD (f + n).toNat default).at (xs.getD n default))
theorem bendN_len (js : List Jnt) (f : Int) (xs : List Int) : ∀ n : Nat, (bendN js f xs n).length = js.length
 | 0 => rfl
 | n + 1 => by simp only [bendN, List.length_set]; exact bendN_len js f xs n
def braL (l : Lin) (t : Swi) : Lin := ⟨l.nam, bendN l.js t.fst t.acr t.acr.length, l.bs, []⟩
def nmB (nm : ByteArray) (t : Swi) : Bool := t.nam.toList == nm.toList
def brF (l : Lin) (nm : ByteArray) : Option Swi := l.ss.find? (nmB nm)
theorem find_miss {p : Swi → Bool} {ss : List Swi} {i : Int} (h0 : 0 ≤ i) (hi : i < ss.length) (h : (ss.take i.toNat).find? p = none) (hp : p (ss.getD i.toNat default) = false) : (ss.take (i + 1).toNat).find? p = none := by
 rw [take_suc h0 hi, List.find?_append, h]
 simp only [List.find?, hp, Option.none_or]
theorem find_hit {p : Swi → Bool} {ss : List Swi} {i : Int} (h0 : 0 ≤ i) (hi : i < ss.length) (h : (ss.take i.toNat).find? p = none) (hp : p (ss.getD i.toNat default) = true) : ss.find? p = some (ss.getD i.toNat default) := by
 have h1 : (ss.take (i + 1).toNat).find? p = some (ss.getD i.toNat default) := by
  rw [take_suc h0 hi, List.find?_append, h]
  simp only [List.find?, hp, Option.none_or]
 rw [← List.take_append_drop (i + 1).toNat ss, List.find?_append, h1]
 rw [List.take_append_drop]; rfl
theorem set_at (js : List Jnt) (i : Nat) (n : Int) (j : Jnt) : (js.map jnE).set i [AV.v (.int .i64 n), AV.v (.int .i64 j.up), AV.v (.int .i64 j.lo), AV.v (.int .i64 j.hi)] = (js.set i (j.at n)).map jnE := by simp [List.map_set, jnE, Jnt.at]
def braA (l : Lin) (nm : ByteArray) : AV := match brF l nm with | some t => .tuple [lnA (braL l t), mA 0] | none => .tuple [lnA nonL, mA 6]
set_option maxRecDepth 100000 in
set_option maxHeartbeats 4000000 in
theorem branch_good (l : Lin) (hl : Sho l) (hg : (linM l).2 = 0) (nm : ByteArray) (hn : nm.size ≤ 1000000) : FnOk Try.prog 18 [lnA l, .v (.string nm)] (fun q => q = braA l nm) := by
 refine fnOk_of (fn := Try.f18) 57 (by kernel_rfl) rfl (by kernel_rfl) (Nat.le_of_ble_eq_true rfl) ?_
 intro e_0 m_0 hA hm_0
 have s0_0 : evA e_0 (.tmp 0) = _ := hA 0 _ rfl
 have s1_0 : evA e_0 (.tmp 1) = _ := hA 1 _ rfl
 have ml_0 : m_0.length = 0 := by rw [hm_0]; rfl
 clear hA hm_0
 have hr := rgt_of hg; have hjs := hr.js; have hn1 := hr.n1; have hs1 := hr.s1
 refine aw_seq <| at_ <| al_stm (st_box s0_0 rfl ml_0) trivial rfl (fun m_1 hm_1 => ?_)
 have mo0_1 := m_push hm_1 ml_0
 have ml_1 := m_push_l hm_1 ml_0
 have ml_1 : _ = 1 := ml_1
 clear hm_1
 refine al_stm (st_alloc qaz26 rfl ml_1) trivial rfl (fun m_2 hm_2 => ?_)
 have mo1_2 := m_push hm_2 ml_1
 simp only [pS, Value.cells, Nat.reduceAdd, jnE, swE, set_at] at mo1_2
 have mo0_2 := m_push_o hm_2 mo0_1
 have ml_2 := m_push_l hm_2 ml_1
 have ml_2 : _ = 2 := ml_2
 clear hm_2 mo0_1
 refine ar (ro_assign ev_c) rfl <| ae3 (up_m rfl (u2 rfl s1_0)) (u2 rfl up_h) (up_m rfl up_h) ?_; clear s0_0 s1_0; intro e_3 s1_3 s2_3 s4_3
 refine then_n <| aw_seq <| aw_seq <| at_ <| ar (ro_eq (ro_ld_ptr y66_ty26 rfl mo0_2 s2_3 (nle rfl)) (by simp only [pS, Value.cells, Nat.reduceAdd, jnE, swE, set_at] <;> rfl)) rfl ?_
 refine ar (ro_call (evL_cons up_h evL_nil) rfl (yOpen_good l hl hg) qhcf27) rfl <| ar (ro_move up_h) rfl <| ar (ro_extract up_h rfl) rfl <| ar (ro_extract (up_m rfl up_h) rfl) rfl <| ar (ro_assign (up_m rfl up_h)) rfl <| ar (ro_assign (up_m rfl up_h)) rfl <| ae4 (up_m rfl (u2 rfl (u4 rfl s1_3))) (up_m rfl (u2 rfl (u4 rfl s2_3))) (up_m rfl (u2 rfl (u4 rfl s4_3))) up_h ?_; clear s1_3 s2_3 s4_3; intro e_4 s1_4 s2_4 s4_4 s7_4
 refine then_n <| aw_seq <| at_ <| ar (ro_move s7_4) rfl <| ar (ro_neq up_h ev_c) rfl <| ae5 (u2 rfl s1_4) (u2 rfl s2_4) (u2 rfl s4_4) (u2 rfl s7_4) up_h ?_; clear s1_4 s2_4 s4_4 s7_4; intro e_5 s1_5 s2_5 s4_5 s7_5 s19_5
 refine then_n <| aw_case s19_5 (fun hq_6 => ?_) (fun hq_6 => ?_)
 ·cases hq_6
 replace hq_6 := bnf hq_6
 refine aw_skip <| then_n <| aw_seq <| at_ <| ar (ro_eq (ro_ld_ptr y66_ty26 rfl mo0_2 s2_5 (nle rfl)) (by simp only [pS, Value.cells, Nat.reduceAdd, jnE, swE, set_at] <;> rfl)) rfl ?_
 refine al_stm (st_callL ml_2 (evL_cons up_h evL_nil) rfl (copied_own l hl hr.ful) qhcf28) trivial rfl (fun m_7 hm_7 => ?_)
 have mo2_7 := m_push hm_7 ml_2
 have mo1_7 := m_push_o hm_7 mo1_2
 have mo0_7 := m_push_o hm_7 mo0_2
 have ml_7 := m_push_l hm_7 ml_2
 have ml_7 : _ = 3 := ml_7
 clear hm_7 mo1_2 mo0_2
 refine al_stm (st_alloc qaz26 rfl ml_7) trivial rfl (fun m_8 hm_8 => ?_)
 have mo3_8 := m_push hm_8 ml_7
 simp only [pS, Value.cells, Nat.reduceAdd, jnE, swE, set_at] at mo3_8
 have mo2_8 := m_push_o hm_8 mo2_7
 have mo1_8 := m_push_o hm_8 mo1_7
 have mo0_8 := m_push_o hm_8 mo0_7
 have ml_8 := m_push_l hm_8 ml_7
 have ml_8 : _ = 4 := ml_8
 clear hm_8 mo2_7 mo1_7 mo0_7
 refine al_stm (st_storeO up_h (up_m rfl up_h) rfl (oneL_c rfl (oneL_o mo2_8 (oneL_c rfl (oneL_c rfl oneL_nil)))) mo3_8 qsz26 rfl (nle rfl)) trivial rfl (fun m_9 hm_9 => ?_)
 have mo3_9 := m_set hm_9 mo3_8
 simp only [pS, Value.cells, Nat.reduceAdd, jnE, swE, set_at] at mo3_9
 have mo2_9 := m_set_o hm_9 mo2_8 (by decide)
 have mo1_9 := m_set_o hm_9 mo1_8 (by decide)
 have mo0_9 := m_set_o hm_9 mo0_8 (by decide)
 have ml_9 := m_set_l hm_9 ml_8
 clear hm_9 mo3_8 mo2_8 mo1_8 mo0_8
 refine ae4 (up_n (up_m rfl (u2 rfl s1_5))) (up_n (up_m rfl (u2 rfl s2_5))) (up_n (up_m rfl (u2 rfl s4_5))) (up_n up_h) ?_; clear s19_5 s1_5 s2_5 s4_5 s7_5; intro e_10 s1_10 s2_10 s4_10 s8_10
 refine then_n <| aw_seq <| aw_seq <| at_ <| ar (ro_fld_ptr qfl26_3 rfl s2_10) rfl <| ar (ro_eq (ro_ld_ptr y66_ty24 rfl mo0_9 up_h (nle rfl)) (by simp only [pS, Value.cells, Nat.reduceAdd, jnE, swE, set_at] <;> rfl)) rfl ?_
 refine ar (ro_eq (ro_len_row up_h rfl y66_sl24.1) (by simp only [lnS] <;> rfl)) rfl ?_
 refine ar (ro_move ev_c) rfl <| ae6 (u4 rfl s1_10) (u4 rfl s4_10) (u4 rfl s8_10) (u2 rfl up_h) (up_m rfl up_h) up_h ?_; clear s1_10 s2_10 s4_10 s8_10; intro e_11 s1_11 s4_11 s8_11 s25_11 s26_11 s27_11
 refine then_n <| aw_block <| aw_loop (S := Int) (fun k e mem => (evA e (.tmp 27) = .v (.int .i64 k)) ∧ (evA e (.tmp 1) = evA e_11 (.tmp 1)) ∧ (evA e (.tmp 4) = evA e_11 (.tmp 4)) ∧ (evA e (.tmp 8) = evA e_11 (.tmp 8)) ∧ (evA e (.tmp 25) = evA e_11 (.tmp 25)) ∧ (evA e (.tmp 26) = evA e_11 (.tmp 26)) ∧ (mem[3]? = m_9[3]?) ∧ (mem[2]? = m_9[2]?) ∧ (mem[1]? = m_9[1]?) ∧ (mem[0]? = m_9[0]?) ∧ (∃ n, mem.length = n ∧ 4 ≤ n) ∧ ((0 ≤ k ∧ k ≤ l.ss.length ∧ (l.ss.take k.toNat).find? (nmB nm) = none))) (fun k => (l.ss.length - k).toNat) _ ⟨s27_11, rfl, rfl, rfl, rfl, rfl, rfl, rfl, rfl, rfl, ⟨_, ml_9, Nat.le_refl _⟩, ?_⟩ ?_
 ·(exact ⟨by omega, by omega, rfl⟩)
 ·rintro k e_12 m_12 ⟨s27_12, k1_12, k4_12, k8_12, k25_12, k26_12, mk3_12, mk2_12, mk1_12, mk0_12, ⟨n_12, ml_12, hn_12⟩, hinv⟩
  have s1_12 := k1_12.trans s1_11
  have s4_12 := k4_12.trans s4_11
  have s8_12 := k8_12.trans s8_11
  have s25_12 := k25_12.trans s25_11
  have s26_12 := k26_12.trans s26_11
  have mo3_12 := mk3_12.trans mo3_9
  have mo2_12 := mk2_12.trans mo2_9
  have mo1_12 := mk1_12.trans mo1_9
  have mo0_12 := mk0_12.trans mo0_9
  (obtain ⟨p1, p2, p3⟩ := hinv)
  refine aw_seq <| at_ <| ar (ro_lss s27_12 s26_12) rfl <| ae7 (up_m rfl s1_12) (up_m rfl s4_12) (up_m rfl s8_12) (up_m rfl s25_12) (up_m rfl s26_12) (up_m rfl s27_12) up_h ?_; clear s1_12 s25_12 s26_12 s27_12 s4_12 s8_12; intro e_13 s1_13 s4_13 s8_13 s25_13 s26_13 s27_13 s28_13
  refine then_n <| aw_seq <| aw_case s28_13 (fun hq_14 => ?_) (fun hq_14 => ?_)
  ·replace hq_14 := bt hq_14
   refine aw_skip <| then_n <| aw_seq <| aw_block <| aw_seq <| at_ <| ar (ro_eq (ro_ix y66_sl24 s25_13 s27_13 (by omega) (by first | (refine idx_map ?_; first | omega | (simp only [lnS]; omega)) | (refine idx_mapI ?_; first | omega | (simp only [lnS]; omega)) | (refine idx_mapN ?_; first | omega | (simp only [lnS]; omega)) | rfl)) (by simp only [pS, Value.cells, Nat.reduceAdd, jnE, swE, set_at] <;> rfl)) rfl ?_
   refine ar (ro_eq (ro_ld_ref y66_ty47 rfl up_h (nle rfl)) (by simp only [pS, Value.cells, Nat.reduceAdd, jnE, swE, set_at] <;> rfl)) rfl ?_
   refine al_stm (st_alloc qaz47 rfl ml_12) trivial rfl (fun m_15 hm_15 => ?_)
   have mon_12_15 := m_push hm_15 ml_12
   simp only [pS, Value.cells, Nat.reduceAdd, jnE, swE, set_at] at mon_12_15
   have mo3_15 := m_push_o hm_15 mo3_12
   have mo2_15 := m_push_o hm_15 mo2_12
   have mo1_15 := m_push_o hm_15 mo1_12
   have mo0_15 := m_push_o hm_15 mo0_12
   have ml_15 := m_push_l hm_15 ml_12
   clear hm_15 mo3_12 mo2_12 mo1_12 mo0_12
   refine al_stm (st_store up_h (up_m rfl up_h) rfl rfl mon_12_15 qsz47 rfl (nle rfl)) trivial rfl (fun m_16 hm_16 => ?_)
   have mon_12_16 := m_set hm_16 mon_12_15
   simp only [pS, Value.cells, Nat.reduceAdd, jnE, swE, set_at] at mon_12_16
   have mo3_16 := m_set_o hm_16 mo3_15 (by omega)
   have mo2_16 := m_set_o hm_16 mo2_15 (by omega)
   have mo1_16 := m_set_o hm_16 mo1_15 (by omega)
   have mo0_16 := m_set_o hm_16 mo0_15 (by omega)
   have ml_16 := m_set_l hm_16 ml_15
   clear hm_16 mon_12_15 mo3_15 mo2_15 mo1_15 mo0_15
   refine ae7 (up_n (up_m rfl (u2 rfl s1_13))) (up_n (up_m rfl (u2 rfl s4_13))) (up_n (up_m rfl (u2 rfl s8_13))) (up_n up_h) (up_n (up_m rfl (u2 rfl s25_13))) (up_n (up_m rfl (u2 rfl s26_13))) (up_n (up_m rfl (u2 rfl s27_13))) ?_; clear s1_13 s25_13 s26_13 s27_13 s28_13 s4_13 s8_13; intro e_17 s1_17 s4_17 s8_17 s10_17 s25_17 s26_17 s27_17
   refine then_n <| aw_seq <| aw_seq <| at_ <| ar (ro_fld_ptr qfl47_0 rfl s10_17) rfl <| ar (ro_eq (ro_ld_ptr y66_ty9 rfl mon_12_16 up_h (nle rfl)) (by simp only [pS, Value.cells, Nat.reduceAdd, jnE, swE, set_at] <;> rfl)) rfl ?_
   refine ar (ro_move (u2 rfl s1_17)) rfl <| ar (ro_sneq (up_m rfl up_h) up_h) rfl <| ae8 (u4 rfl s1_17) (u4 rfl s4_17) (u4 rfl s8_17) (u4 rfl s10_17) (u4 rfl s25_17) (u4 rfl s26_17) (u4 rfl s27_17) up_h ?_; clear s10_17 s1_17 s25_17 s26_17 s27_17 s4_17 s8_17; intro e_18 s1_18 s4_18 s8_18 s10_18 s25_18 s26_18 s27_18 s34_18
   refine then_n <| aw_case s34_18 (fun hq_19 => ?_) (fun hq_19 => ?_)
   ·replace hq_19 := bt' hq_19
    refine aw_exit <| then_x <| block_hit <| then_n <| at_ ?_
    (refine ar (ro_add' s27_18 ev_c ?_) rfl ?_; · (unfold In64; omega))
    refine ar (ro_move up_h) rfl <| ae6 (u2 rfl s1_18) (u2 rfl s4_18) (u2 rfl s8_18) (u2 rfl s25_18) (u2 rfl s26_18) up_h ?_; clear s10_18 s1_18 s25_18 s26_18 s27_18 s34_18 s4_18 s8_18; intro e_20 s1_20 s4_20 s8_20 s25_20 s26_20 s27_20
    refine then_n <| ⟨_, ⟨s27_20, (s1_20.trans s1_11.symm), (s4_20.trans s4_11.symm), (s8_20.trans s8_11.symm), (s25_20.trans s25_11.symm), (s26_20.trans s26_11.symm), (mo3_16.trans mo3_9.symm), (mo2_16.trans mo2_9.symm), (mo1_16.trans mo1_9.symm), (mo0_16.trans mo0_9.symm), ⟨_, ml_16, by omega⟩, ?_⟩, ?_⟩
    ·(exact ⟨by omega, by omega, find_miss p1 (by omega) p3 (by assumption)⟩)
    ·((try dsimp only); omega)
   replace hq_19 := bf' hq_19
   refine aw_skip <| then_n <| aw_seq <| aw_seq <| at_ <| ar (ro_fld_ptr qfl47_2 rfl s10_18) rfl <| ar (ro_eq (ro_ld_ptr y66_ty40 rfl mon_12_16 up_h (nle rfl)) (by simp only [pS, Value.cells, Nat.reduceAdd, jnE, swE, set_at] <;> rfl)) rfl ?_
   refine ar (ro_eq (ro_len_row up_h rfl y66_sl40.1) (by simp only [lnS] <;> rfl)) rfl ?_
   refine ar (ro_move ev_c) rfl <| ae6 (u4 rfl s4_18) (u4 rfl s8_18) (u4 rfl s10_18) (u2 rfl up_h) (up_m rfl up_h) up_h ?_; clear s10_18 s1_18 s25_18 s26_18 s27_18 s34_18 s4_18 s8_18; intro e_21 s4_21 s8_21 s10_21 s36_21 s37_21 s38_21
   refine then_n <| aw_block <| aw_loop (S := (Int × List Jnt)) (fun s e mem => match s with | ⟨i, xs⟩ => (evA e (.tmp 38) = .v (.int .i64 i)) ∧ (evA e (.tmp 4) = evA e_21 (.tmp 4)) ∧ (evA e (.tmp 8) = evA e_21 (.tmp 8)) ∧ (evA e (.tmp 10) = evA e_21 (.tmp 10)) ∧ (evA e (.tmp 36) = evA e_21 (.tmp 36)) ∧ (evA e (.tmp 37) = evA e_21 (.tmp 37)) ∧ (mem[2]? = some (.row 66 4 (xs.map jnE))) ∧ (mem[n_12]? = m_16[n_12]?) ∧ (mem[3]? = m_16[3]?) ∧ (mem[1]? = m_16[1]?) ∧ (mem[0]? = m_16[0]?) ∧ (mem.length = n_12 + 1) ∧ ((0 ≤ i ∧ i ≤ (l.ss.getD k.toNat default).acr.length ∧ xs = bendN l.js (l.ss.getD k.toNat default).fst (l.ss.getD k.toNat default).acr i.toNat))) (fun s => match s with | ⟨i, xs⟩ => ((l.ss.getD k.toNat default).acr.length - i).toNat) ⟨_, l.js⟩ ⟨s38_21, rfl, rfl, rfl, rfl, rfl, mo2_16, rfl, rfl, rfl, rfl, ml_16, ?_⟩ ?_
   ·(exact ⟨by omega, by omega, rfl⟩)
   ·rintro ⟨i, xs⟩ e_22 m_22 ⟨s38_22, k4_22, k8_22, k10_22, k36_22, k37_22, mo2_22, mkn_12_22, mk3_22, mk1_22, mk0_22, ml_22, hinv⟩
    have s4_22 := k4_22.trans s4_21
    have s8_22 := k8_22.trans s8_21
    have s10_22 := k10_22.trans s10_21
    have s36_22 := k36_22.trans s36_21
    have s37_22 := k37_22.trans s37_21
    have mon_12_22 := mkn_12_22.trans mon_12_16
    have mo3_22 := mk3_22.trans mo3_16
    have mo1_22 := mk1_22.trans mo1_16
    have mo0_22 := mk0_22.trans mo0_16
    (obtain ⟨i1, i2, i3⟩ := hinv; have hxl : xs.length = l.js.length := (by rw [i3, bendN_len]); have ha := hl.at k.toNat; obtain ⟨w1, w2, w3, w4⟩ := hr.swi (i := k.toNat) (by omega))
    refine aw_seq <| at_ <| ar (ro_lss s38_22 s37_22) rfl <| ae7 (up_m rfl s4_22) (up_m rfl s8_22) (up_m rfl s10_22) (up_m rfl s36_22) (up_m rfl s37_22) (up_m rfl s38_22) up_h ?_; clear s10_22 s36_22 s37_22 s38_22 s4_22 s8_22; intro e_23 s4_23 s8_23 s10_23 s36_23 s37_23 s38_23 s39_23
    refine then_n <| aw_seq <| aw_case s39_23 (fun hq_24 => ?_) (fun hq_24 => ?_)
    ·replace hq_24 := bt hq_24
     refine aw_skip <| then_n <| aw_seq <| aw_block <| aw_seq <| at_ <| ar (ro_move s38_23) rfl <| ar (ro_eq (ro_ix y66_sl40 (up_m rfl s36_23) (up_m rfl s38_23) (by omega) (by first | (refine idx_map ?_; first | omega | (simp only [lnS]; omega)) | (refine idx_mapI ?_; first | omega | (simp only [lnS]; omega)) | (refine idx_mapN ?_; first | omega | (simp only [lnS]; omega)) | rfl)) (by simp only [pS, Value.cells, Nat.reduceAdd, jnE, swE, set_at] <;> rfl)) rfl ?_
     refine ar (ro_eq (ro_ld_ref y66_ty3 rfl up_h (nle rfl)) (by simp only [pS, Value.cells, Nat.reduceAdd, jnE, swE, set_at] <;> rfl)) rfl ?_
     refine ar (ro_assign (u2 rfl up_h)) rfl <| ar (ro_assign (up_m rfl up_h)) rfl <| ae8 (up_m rfl (u4 rfl s4_23)) (up_m rfl (u4 rfl s8_23)) (up_m rfl (u4 rfl s10_23)) (up_m rfl up_h) up_h (up_m rfl (u4 rfl s36_23)) (up_m rfl (u4 rfl s37_23)) (up_m rfl (u4 rfl s38_23)) ?_; clear s10_23 s36_23 s37_23 s38_23 s39_23 s4_23 s8_23; intro e_25 s4_25 s8_25 s10_25 s11_25 s12_25 s36_25 s37_25 s38_25
     refine then_n <| at_ <| ar (ro_fld_ptr qfl26_1 rfl s8_25) rfl <| ar (ro_eq (ro_ld_ptr y66_ty22 rfl mo3_22 up_h (nle rfl)) (by simp only [pS, Value.cells, Nat.reduceAdd, jnE, swE, set_at] <;> rfl)) rfl ?_
     refine ar (ro_fld_ptr qfl47_1 rfl (u2 rfl s10_25)) rfl <| ar (ro_eq (ro_ld_ptr y66_ty3 rfl mon_12_22 up_h (nle rfl)) (by simp only [pS, Value.cells, Nat.reduceAdd, jnE, swE, set_at] <;> rfl)) rfl ?_
     refine ar (ro_move (u4 rfl s11_25)) rfl ?_
     (refine ar (ro_add' (up_m rfl up_h) up_h ?_) rfl ?_; · (unfold In64; omega))
     refine ar (ro_move (u2 rfl (u4 rfl s12_25))) rfl <| ar (ro_ix_own y66_sl22 mo2_22 (up_m rfl (u4 rfl up_h)) (up_m rfl up_h) (by omega) (by simp only [lnS] <;> omega)) rfl ?_
     refine ar (ro_fld_ptr qfl66_0 rfl up_h) rfl <| al_stm (st_store_el up_h (u2 rfl up_h) rfl rfl rfl mo2_22 (Nat.add_zero _).symm (by first | (refine idx_map ?_; first | omega | (simp only [lnS]; omega)) | (refine idx_mapI ?_; first | omega | (simp only [lnS]; omega)) | (refine idx_mapN ?_; first | omega | (simp only [lnS]; omega)) | rfl) qsz3 rfl (nle rfl)) trivial rfl (fun m_26 hm_26 => ?_)
     have mo2_26 := m_set hm_26 mo2_22
     simp only [pS, Value.cells, Nat.reduceAdd, jnE, swE, set_at] at mo2_26
     have mon_12_26 := m_set_o hm_26 mon_12_22 (by omega)
     have mo3_26 := m_set_o hm_26 mo3_22 (by decide)
     have mo1_26 := m_set_o hm_26 mo1_22 (by decide)
     have mo0_26 := m_set_o hm_26 mo0_22 (by decide)
     have ml_26 := m_set_l hm_26 ml_22
     clear hm_26 mo2_22 mon_12_22 mo3_22 mo1_22 mo0_22
     refine ae6 (up_n (up_m rfl (u8 rfl s4_25))) (up_n (up_m rfl (u8 rfl s8_25))) (up_n (up_m rfl (u8 rfl s10_25))) (up_n (up_m rfl (u8 rfl s36_25))) (up_n (up_m rfl (u8 rfl s37_25))) (up_n (up_m rfl (u8 rfl s38_25))) ?_; clear s10_25 s11_25 s12_25 s36_25 s37_25 s38_25 s4_25 s8_25; intro e_27 s4_27 s8_27 s10_27 s36_27 s37_27 s38_27
     refine block_n <| then_n <| at_ ?_
     (refine ar (ro_add' s38_27 ev_c ?_) rfl ?_; · (unfold In64; omega))
     refine ar (ro_move up_h) rfl <| ae6 (u2 rfl s4_27) (u2 rfl s8_27) (u2 rfl s10_27) (u2 rfl s36_27) (u2 rfl s37_27) up_h ?_; clear s10_27 s36_27 s37_27 s38_27 s4_27 s8_27; intro e_28 s4_28 s8_28 s10_28 s36_28 s37_28 s38_28
     refine then_n <| ⟨⟨_, _⟩, ⟨s38_28, (s4_28.trans s4_21.symm), (s8_28.trans s8_21.symm), (s10_28.trans s10_21.symm), (s36_28.trans s36_21.symm), (s37_28.trans s37_21.symm), mo2_26, (mon_12_26.trans mon_12_16.symm), (mo3_26.trans mo3_16.symm), (mo1_26.trans mo1_16.symm), (mo0_26.trans mo0_16.symm), ml_26, ?_⟩, ?_⟩
     ·(refine ⟨by omega, by omega, ?_⟩; rw [show (i + 1).toNat = i.toNat + 1 by omega]; simp only [bendN]; rw [← i3, show ((l.ss.getD k.toNat default).fst + (i.toNat : Int)) = (l.ss.getD k.toNat default).fst + i by omega])
     ·((try dsimp only); omega)
    replace hq_24 := bf hq_24
    refine aw_exit <| then_x <| then_x <| block_hit <| then_n <| aw_seq <| at_ <| ar (ro_fld_ptr qfl26_3 rfl s8_23) rfl <| al_stm (st_store up_h ev_c rfl rfl mo3_22 qsz24 rfl (nle rfl)) trivial rfl (fun m_29 hm_29 => ?_)
    have mo3_29 := m_set hm_29 mo3_22
    simp only [pS, Value.cells, Nat.reduceAdd, jnE, swE, set_at] at mo3_29
    have mo2_29 := m_set_o hm_29 mo2_22 (by decide)
    have mon_12_29 := m_set_o hm_29 mon_12_22 (by omega)
    have mo1_29 := m_set_o hm_29 mo1_22 (by decide)
    have mo0_29 := m_set_o hm_29 mo0_22 (by decide)
    have ml_29 := m_set_l hm_29 ml_22
    clear hm_29 mo2_22 mon_12_22 mo3_22 mo1_22 mo0_22
    refine ae2 (up_n (up_m rfl s4_23)) (up_n (up_m rfl s8_23)) ?_; clear s10_23 s36_23 s37_23 s38_23 s39_23 s4_23 s8_23; intro e_30 s4_30 s8_30
    refine then_n <| aw_seq <| at_ <| ar (ro_eq (ro_ld_ptr y66_ty26 rfl mo3_29 s8_30 (nle rfl)) (by simp only [pS, Value.cells, Nat.reduceAdd, jnE, swE, set_at] <;> rfl)) rfl ?_
    refine al_stm (st_storeO (up_m rfl s4_30) up_h rfl (oneL_c rfl (oneL_o mo2_29 (oneL_c rfl (oneL_c rfl oneL_nil)))) mo1_29 qsz26 rfl (nle rfl)) trivial rfl (fun m_31 hm_31 => ?_)
    have mo1_31 := m_set hm_31 mo1_29
    simp only [pS, Value.cells, Nat.reduceAdd, jnE, swE, set_at] at mo1_31
    have mo3_31 := m_set_o hm_31 mo3_29 (by decide)
    have mo2_31 := m_set_o hm_31 mo2_29 (by decide)
    have mon_12_31 := m_set_o hm_31 mon_12_29 (by omega)
    have mo0_31 := m_set_o hm_31 mo0_29 (by decide)
    have ml_31 := m_set_l hm_31 ml_29
    clear hm_31 mo3_29 mo2_29 mon_12_29 mo1_29 mo0_29
    refine ar (ro_assign ev_c) rfl <| ae2 (up_m rfl (up_n (up_m rfl s4_30))) up_h ?_; clear s4_30 s8_30; intro e_32 s4_32 s5_32
    refine then_n <| aw_ret <| block_r <| then_r <| then_r <| block_r <| then_r <| ret2 (.inr rfl) (by kernel_rfl) (resV_cell s4_32 mo1_31 y66_ty26 (nle rfl) (by simp)) (resV_tmp s5_32) (vw_r (vw_agg (vwl_cons (.ro _ rfl) (vwl_cons (.own _ _ _ _ mo2_31) (vwl_cons (.ro _ rfl) (vwl_cons (.nil 3) vwl_nil)))))) (.ro _ rfl) ?_
    clear s4_32 s5_32 mo1_31 mo3_31 mo2_31 mon_12_31 mo0_31 ml_31
    (have hm : (l.ss.getD k.toNat default).acr.length = i.toNat := (by omega); have hf : brF l nm = some (l.ss.getD k.toNat default) := find_hit p1 (by omega) p3 (by assumption); unfold braA; rw [hf]; show _ = AV.tuple [lnA (braL l (l.ss.getD k.toNat default)), mA 0]; unfold braL; rw [hm, ← i3]; rfl)
  replace hq_14 := bf hq_14
  refine aw_exit <| then_x <| then_x <| block_hit <| then_n <| aw_seq <| at_ <| ar (ro_build evP_nil qbz26 qbu26 qbp26 rfl) rfl ?_
  refine al_stm (st_store (up_m rfl s4_13) up_h rfl rfl mo1_12 qsz26 rfl (nle rfl)) trivial rfl (fun m_33 hm_33 => ?_)
  have mo1_33 := m_set hm_33 mo1_12
  simp only [pS, Value.cells, Nat.reduceAdd, jnE, swE, set_at] at mo1_33
  have mo3_33 := m_set_o hm_33 mo3_12 (by decide)
  have mo2_33 := m_set_o hm_33 mo2_12 (by decide)
  have mo0_33 := m_set_o hm_33 mo0_12 (by decide)
  have ml_33 := m_set_l hm_33 ml_12
  clear hm_33 mo3_12 mo2_12 mo1_12 mo0_12
  refine ar (ro_assign ev_c) rfl <| ae2 (up_m rfl (up_n (up_m rfl s4_13))) up_h ?_; clear s1_13 s25_13 s26_13 s27_13 s28_13 s4_13 s8_13; intro e_34 s4_34 s5_34
  refine then_n <| aw_ret <| ret2 (.inr rfl) (by kernel_rfl) (resV_cell s4_34 mo1_33 y66_ty26 (nle rfl) (by simp)) (resV_tmp s5_34) (vw_r (vw_agg (vwl_cons (.ro _ rfl) (vwl_cons (.nil 4) (vwl_cons (.nil 2) (vwl_cons (.nil 3) vwl_nil)))))) (.ro _ rfl) ?_
  clear s4_34 s5_34 mo1_33 mo3_33 mo2_33 mo0_33 ml_33
  (have hf : brF l nm = none := (by unfold brF; rw [List.take_of_length_le (by omega)] at p3; exact p3); unfold braA; rw [hf]; rfl)
theorem jnt_bd {j : Jnt} (h : jntE j = 0) : (-20000 ≤ j.acr ∧ j.acr ≤ 20000) ∧ (-20000 ≤ j.up ∧ j.up ≤ 20000) ∧ -100 ≤ j.lo ∧ j.hi ≤ 100 ∧ j.lo ≤ j.hi := by
 unfold jntE at h
 split at h
 ·rename_i hb
  split at h
  ·simp only [jntB, smaB, Bool.and_eq_true, withinB_iff] at hb
   omega
  ·cases h
 ·cases h
theorem getD_mem {xs : List Int} {k : Nat} (hk : k < xs.length) : xs.getD k default ∈ xs := by
 rw [List.getD_eq_getElem?_getD, List.getElem?_eq_getElem hk]; exact List.getElem_mem hk
theorem bendN_right {js : List Jnt} {f : Int} {xs : List Int} (hj : ∀ j : Nat, j < js.length → jntE (js.getD j default) = 0) (hx : ∀ n ∈ xs, -20000 ≤ n ∧ n ≤ 20000) : ∀ n : Nat, n ≤ xs.length → ∀ j : Nat, j < js.length → jntE ((bendN js f xs n).getD j default) = 0
 | 0, _, j, h => hj j h
 | n + 1, hn, j, h => by
  have ih := bendN_right (f := f) hj hx n (by omega)
  have hl := bendN_len js f xs n
  simp only [bendN]
  by_cases hp : (f + n).toNat = j
  ·subst hp
   rw [List.getD_eq_getElem?_getD, List.getElem?_set_self (by omega)]
   have h1 := jnt_bd (ih _ h)
   have h2 := hx _ (getD_mem (show n < xs.length by omega))
   exact jntE_of ⟨h2, h1.2⟩
  ·rw [List.getD_eq_getElem?_getD, List.getElem?_set_ne hp, ← List.getD_eq_getElem?_getD]
   exact ih j h
theorem braL_rgt {l : Lin} (h : Rgt l) {t : Swi} (ht : ∀ n ∈ t.acr, -20000 ≤ n ∧ n ≤ 20000) : Rgt (braL l t) :=
 ⟨h.nam, h.n0, h.n1, by show (bendN _ _ _ _).length = _; rw [bendN_len]; exact h.js, fun j hj => bendN_right h.ja ht _ (Nat.le_refl _) j (by rw [← bendN_len l.js t.fst t.acr t.acr.length]; exact hj), h.ba, Nat.zero_le _, fun j hj => absurd hj (Nat.not_lt_zero _)⟩
theorem braL_sho {l : Lin} (h : Sho l) (t : Swi) : Sho (braL l t) := ⟨h.1, by show (bendN _ _ _ _).length ≤ _; rw [bendN_len]; exact h.2.1, h.2.2.1, Nat.zero_le _, fun s hs => by cases hs⟩
end Go.Proofs.Ytjhcfpdgldpicaa
