/- Numerals as the programs of chapters 3 and 5 read them. No conditions on a program. -/
import Derived.Test.YtfmjmngkgmlghaaDoorT0
import Derived.Test.YtfmjmngkgmlghaaDoorZ6
namespace Go.Proofs.YtfmjmngkgmlghaaDoor
open Go Go.RowKit Go.Proofs Go.Lib
set_option linter.unusedSimpArgs false
set_option linter.unusedVariables false
theorem z7_hcf52 : ∀ args w, (callFunc 52 args).run Tryd.prog w = .ok (.enter 52 args) w := fun _ _ => by kernel_rfl
theorem z7_hcf53 : ∀ args w, (callFunc 53 args).run Tryd.prog w = .ok (.enter 53 args) w := fun _ _ => by kernel_rfl
theorem z7_uf105 : isIf (Tryd.prog.underlying 105) = true := by kernel_rfl

theorem cmp_bs (l : List UInt8) (tx : ByteArray) : ((⟨l.toArray⟩ : ByteArray).toList == tx.toList) = decide (l = tx.data.toList) := by
  have h1 : (⟨l.toArray⟩ : ByteArray).toList = l := bs_toList l
  rw [h1, toList_data]
  rw [Bool.eq_iff_iff]; simp
theorem numK_good {l : List UInt8} {v : Int} (h : atoiAll l = .ok v) (D : Nat) : numK l D = (decide (itoa v = l) && decide ((trimPrefix l [45]).length ≤ D)) ∧ numN l = v := by
  unfold numK numN; rw [h]; exact ⟨rfl, rfl⟩
theorem numK_bad {l : List UInt8} (h : ∀ v, atoiAll l ≠ .ok v) (D : Nat) : numK l D = false := by
  unfold numK
  rcases hq : atoiAll l with v | _ | _
  · exact absurd hq (h v)
  · rfl
  · rfl
section
variable (es er : Value) (hes : isE es) (her : isE er) (tx : ByteArray) (hl : tx.size ≤ 1000000)
include hl
set_option maxRecDepth 100000 in
set_option maxHeartbeats 4000000 in
theorem kNumber_good (below : Bool) (v : Int) (h : atoiAll tx.data.toList = .ok v) : FnOkG Tryd.prog (gX es er) 40 [.v (.string tx), .v (.bool below)] (fun q => q = .tuple [.v (.int .i64 (numN tx.data.toList)), .v (.bool (numK tx.data.toList 11 && (below || decide (0 ≤ numN tx.data.toList))))]) := by
  obtain ⟨hk, hn⟩ := numK_good h 11
  have hb := atoiAll_bounds h
  have hc := cmp_bs (itoa v) tx
  rw [hk, hn]
  refine fnOkG_of (fn := Tryd.f40) (gX es er) 35 (by kernel_rfl) rfl (by kernel_rfl) (Nat.le_of_ble_eq_true rfl) ?_
  intro e_0 m_0 hA hm_0
  have s0_0 : evA e_0 (.tmp 0) = _ := hA 0 _ rfl
  have s1_0 : evA e_0 (.tmp 1) = _ := hA 1 _ rfl
  have ml_0 : m_0.length = 1 := by rw [hm_0]; rfl
  have mo0_0 : m_0[0]? = some (.glob (gX es er)) := by rw [hm_0]; rfl
  clear hA hm_0
  refine aw_seq <| at_ <| ar (ro_assign ev_c) rfl <| ar (ro_assign ev_c) rfl <| ae2 (u2 rfl s0_0) (u2 rfl s1_0) ?_; clear s0_0 s1_0; intro e_1 s0_1 s1_1
  refine then_n <| aw_seq <| at_ <| ar (ro_move s0_1) rfl <| ar (ro_call (evL_cons up_h evL_nil) rfl (atoi_good tx (by omega) v h) z7_hcf52) rfl ?_
  refine ar (ro_move up_h) rfl <| ar (ro_extract up_h rfl) rfl <| ar (ro_extract (up_m rfl up_h) rfl) rfl <| ar (ro_assign (up_m rfl up_h)) rfl <| ar (ro_assign (up_m rfl up_h)) rfl <| ae4 (up_m rfl (u2 rfl (u4 rfl s0_1))) (up_m rfl (u2 rfl (u4 rfl s1_1))) (up_m rfl up_h) up_h ?_; clear s0_1 s1_1; intro e_2 s0_2 s1_2 s6_2 s7_2
  refine then_n <| aw_seq <| at_ <| ar (ro_move s6_2) rfl <| ar (ro_move (up_m rfl s7_2)) rfl <| ar (ro_ifnil up_h z7_uf105) rfl <| ar (ro_move up_h) rfl <| al_case up_h (fun hb_3 hq_3 => ?_) (fun hb_3 hq_3 => ?_)
  ·skip
   refine al_ro' (ro_move (u4 rfl s6_2)) ⟨_, rfl, hb_3⟩ rfl ?_
   refine al_ro' (ro_callG (evL_cons up_h evL_nil) rfl mo0_0 (itoa_ok es er v (by unfold In64; omega)) qhcf24) ⟨_, rfl, (up_m rfl hb_3)⟩ rfl ?_
   refine al_ro' (ro_move (u2 rfl (u4 rfl s0_2))) ⟨_, rfl, (u2 rfl hb_3)⟩ rfl ?_
   refine al_ro' (ro_seql (up_m rfl up_h) up_h) ⟨_, rfl, (up_m rfl (u2 rfl hb_3))⟩ rfl ?_
   refine ar (ro_pickT (u4 rfl hb_3) up_h) rfl <| ar (ro_move up_h) rfl <| al_case up_h (fun hb_4 hq_4 => ?_) (fun hb_4 hq_4 => ?_)
   ·skip
    refine al_ro' (ro_move (u2 rfl (u8 rfl s0_2))) ⟨_, rfl, hb_4⟩ rfl ?_
    refine al_ro' (ro_call (evL_cons up_h (evL_cons ev_c evL_nil)) rfl (trimPrefix_ok tx _) z7_hcf53) ⟨_, rfl, (up_m rfl hb_4)⟩ rfl ?_
    refine al_ro' (ro_len_str up_h rfl qun9) ⟨_, rfl, (u2 rfl hb_4)⟩ rfl ?_
    refine al_ro' (ro_leq up_h ev_c) ⟨_, rfl, (up_m rfl (u2 rfl hb_4))⟩ rfl ?_
    refine ar (ro_pickT (u4 rfl hb_4) up_h) rfl <| ar (ro_move up_h) rfl <| al_case up_h (fun hb_5 hq_5 => ?_) (fun hb_5 hq_5 => ?_)
    ·replace hq_5 := bt hq_5
     refine al_ro' (ro_move (u16 rfl s1_2)) ⟨_, rfl, hb_5⟩ rfl ?_
     refine al_ro' (ro_move up_h) ⟨_, rfl, (up_m rfl hb_5)⟩ rfl ?_
     refine al_case up_h (fun hb_6 hq_6 => ?_) (fun hb_6 hq_6 => ?_)
     ·skip
      refine al_skip' ⟨_, rfl, .inl hb_6⟩ rfl ?_
      refine al_skip' ⟨_, rfl, .inl (up_m rfl hb_6)⟩ rfl ?_
      refine al_ro' (ro_pickT (u2 rfl hb_6) ev_c) ⟨_, rfl, (u4 rfl hb_5)⟩ rfl ?_
      refine ar (ro_pickT (up_m rfl (u4 rfl hb_5)) up_h) rfl <| ar (ro_assign (up_m rfl (u4 rfl (u16 rfl up_h)))) rfl <| ar (ro_assign (up_m rfl up_h)) rfl <| ae2 (up_m rfl up_h) up_h ?_; clear hb_3 hb_4 hb_5 hb_6 s0_2 s1_2 s6_2 s7_2; intro e_7 s4_7 s5_7
      refine then_n <| aw_ret <| ret2 (.inr rfl) (by kernel_rfl) (resV_tmp s4_7) (resV_tmp s5_7) (.ro _ rfl) (.ro _ rfl) ?_
      clear s4_7 s5_7 mo0_0 ml_0
      (first | (simp_all [size_mk]; done) | (simp_all [size_mk] <;> omega))
     refine al_ro' (ro_move (u2 rfl (u16 rfl s6_2))) ⟨_, rfl, hb_6⟩ rfl ?_
     refine al_ro' (ro_geq up_h ev_c) ⟨_, rfl, (up_m rfl hb_6)⟩ rfl ?_
     refine al_ro' (ro_pickF (u2 rfl hb_6) up_h) ⟨_, rfl, (u4 rfl hb_5)⟩ rfl ?_
     refine ar (ro_pickT (up_m rfl (u4 rfl hb_5)) up_h) rfl <| ar (ro_assign (up_m rfl (u4 rfl (u16 rfl up_h)))) rfl <| ar (ro_assign (up_m rfl up_h)) rfl <| ae2 (up_m rfl up_h) up_h ?_; clear hb_3 hb_4 hb_5 hb_6 s0_2 s1_2 s6_2 s7_2; intro e_8 s4_8 s5_8
     refine then_n <| aw_ret <| ret2 (.inr rfl) (by kernel_rfl) (resV_tmp s4_8) (resV_tmp s5_8) (.ro _ rfl) (.ro _ rfl) ?_
     clear s4_8 s5_8 mo0_0 ml_0
     (first | (simp_all [size_mk]; done) | (simp_all [size_mk] <;> omega))
    replace hq_5 := bf hq_5
    refine al_skip' ⟨_, rfl, .inl hb_5⟩ rfl ?_
    refine al_skip' ⟨_, rfl, .inl (up_m rfl hb_5)⟩ rfl ?_
    refine al_skip' ⟨_, rfl, .inr up_h⟩ rfl ?_
    refine al_skip' ⟨_, rfl, .inr (up_m rfl up_h)⟩ rfl ?_
    refine al_skip' ⟨_, rfl, .inl (u4 rfl hb_5)⟩ rfl ?_
    refine ar (ro_pickF (up_m rfl (u4 rfl hb_5)) ev_c) rfl <| ar (ro_assign (up_m rfl (u4 rfl (u16 rfl up_h)))) rfl <| ar (ro_assign (up_m rfl up_h)) rfl <| ae2 (up_m rfl up_h) up_h ?_; clear hb_3 hb_4 hb_5 s0_2 s1_2 s6_2 s7_2; intro e_9 s4_9 s5_9
    refine then_n <| aw_ret <| ret2 (.inr rfl) (by kernel_rfl) (resV_tmp s4_9) (resV_tmp s5_9) (.ro _ rfl) (.ro _ rfl) ?_
    clear s4_9 s5_9 mo0_0 ml_0
    (first | (simp_all [size_mk]; done) | (simp_all [size_mk] <;> omega))
   refine al_skip' ⟨_, rfl, .inl hb_4⟩ rfl ?_
   refine al_skip' ⟨_, rfl, .inl (up_m rfl hb_4)⟩ rfl ?_
   refine al_skip' ⟨_, rfl, .inl (u2 rfl hb_4)⟩ rfl ?_
   refine al_skip' ⟨_, rfl, .inl (up_m rfl (u2 rfl hb_4))⟩ rfl ?_
   refine ar (ro_pickF (u4 rfl hb_4) ev_c) rfl <| ar (ro_move up_h) rfl <| al_skip' ⟨_, rfl, .inl up_h⟩ rfl ?_
   refine al_skip' ⟨_, rfl, .inl (up_m rfl up_h)⟩ rfl ?_
   refine al_skip' ⟨_, rfl, .inr up_h⟩ rfl ?_
   refine al_skip' ⟨_, rfl, .inr (up_m rfl up_h)⟩ rfl ?_
   refine al_skip' ⟨_, rfl, .inl (u4 rfl up_h)⟩ rfl ?_
   refine ar (ro_pickF (up_m rfl (u4 rfl up_h)) ev_c) rfl <| ar (ro_assign (up_m rfl (u4 rfl (u16 rfl up_h)))) rfl <| ar (ro_assign (up_m rfl up_h)) rfl <| ae2 (up_m rfl up_h) up_h ?_; clear hb_3 hb_4 s0_2 s1_2 s6_2 s7_2; intro e_10 s4_10 s5_10
   refine then_n <| aw_ret <| ret2 (.inr rfl) (by kernel_rfl) (resV_tmp s4_10) (resV_tmp s5_10) (.ro _ rfl) (.ro _ rfl) ?_
   clear s4_10 s5_10 mo0_0 ml_0
   (first | (simp_all [size_mk]; done) | (simp_all [size_mk] <;> omega))
  · cases hq_3
include hes her
set_option maxRecDepth 100000 in
set_option maxHeartbeats 4000000 in
theorem kNumber_bad (below : Bool) (h : ∀ v, atoiAll tx.data.toList ≠ .ok v) : FnOkG Tryd.prog (gX es er) 40 [.v (.string tx), .v (.bool below)] (fun q => q = .tuple [.v (.int .i64 (numN tx.data.toList)), .v (.bool (numK tx.data.toList 11 && (below || decide (0 ≤ numN tx.data.toList))))]) := by
  rw [numK_bad h]
  refine fnOkG_of (fn := Tryd.f40) (gX es er) 35 (by kernel_rfl) rfl (by kernel_rfl) (Nat.le_of_ble_eq_true rfl) ?_
  intro e_0 m_0 hA hm_0
  have s0_0 : evA e_0 (.tmp 0) = _ := hA 0 _ rfl
  have s1_0 : evA e_0 (.tmp 1) = _ := hA 1 _ rfl
  have ml_0 : m_0.length = 1 := by rw [hm_0]; rfl
  have mo0_0 : m_0[0]? = some (.glob (gX es er)) := by rw [hm_0]; rfl
  clear hA hm_0
  refine aw_seq <| at_ <| ar (ro_assign ev_c) rfl <| ar (ro_assign ev_c) rfl <| ae2 (u2 rfl s0_0) (u2 rfl s1_0) ?_; clear s0_0 s1_0; intro e_1 s0_1 s1_1
  refine then_n <| aw_seq <| at_ <| ar (ro_move s0_1) rfl <| al_roE (roE_callG (evL_cons up_h evL_nil) rfl mo0_0 (atoi_bad es er hes her tx (by omega) h) z7_hcf52) trivial rfl (fun r_2 hr_2 => ?_)
  obtain ⟨N_2, rfl⟩ := hr_2
  refine ar (ro_move up_h) rfl <| ar (ro_extract up_h rfl) rfl <| ar (ro_extract (up_m rfl up_h) rfl) rfl <| ar (ro_assign (up_m rfl up_h)) rfl <| ar (ro_assign (up_m rfl up_h)) rfl <| ae4 (up_m rfl (u2 rfl (u4 rfl s0_1))) (up_m rfl (u2 rfl (u4 rfl s1_1))) (up_m rfl up_h) up_h ?_; clear s0_1 s1_1; intro e_3 s0_3 s1_3 s6_3 s7_3
  refine then_n <| aw_seq <| at_ <| ar (ro_move s6_3) rfl <| ar (ro_move (up_m rfl s7_3)) rfl <| ar (ro_iferr up_h z7_uf105) rfl <| ar (ro_move up_h) rfl <| al_case up_h (fun hb_4 hq_4 => ?_) (fun hb_4 hq_4 => ?_)
  · cases hq_4
  refine al_skip' ⟨_, rfl, .inl hb_4⟩ rfl ?_
  refine al_skip' ⟨_, rfl, .inl (up_m rfl hb_4)⟩ rfl ?_
  refine al_skip' ⟨_, rfl, .inl (u2 rfl hb_4)⟩ rfl ?_
  refine al_skip' ⟨_, rfl, .inl (up_m rfl (u2 rfl hb_4))⟩ rfl ?_
  refine ar (ro_pickF (u4 rfl hb_4) ev_c) rfl <| ar (ro_move up_h) rfl <| al_skip' ⟨_, rfl, .inl up_h⟩ rfl ?_
  refine al_skip' ⟨_, rfl, .inl (up_m rfl up_h)⟩ rfl ?_
  refine al_skip' ⟨_, rfl, .inl (u2 rfl up_h)⟩ rfl ?_
  refine al_skip' ⟨_, rfl, .inl (up_m rfl (u2 rfl up_h))⟩ rfl ?_
  refine ar (ro_pickF (u4 rfl up_h) ev_c) rfl <| ar (ro_move up_h) rfl <| al_skip' ⟨_, rfl, .inl up_h⟩ rfl ?_
  refine al_skip' ⟨_, rfl, .inl (up_m rfl up_h)⟩ rfl ?_
  refine al_skip' ⟨_, rfl, .inr up_h⟩ rfl ?_
  refine al_skip' ⟨_, rfl, .inr (up_m rfl up_h)⟩ rfl ?_
  refine al_skip' ⟨_, rfl, .inl (u4 rfl up_h)⟩ rfl ?_
  refine ar (ro_pickF (up_m rfl (u4 rfl up_h)) ev_c) rfl <| ar (ro_assign (up_m rfl (u4 rfl (u16 rfl up_h)))) rfl <| ar (ro_assign (up_m rfl up_h)) rfl <| ae2 (up_m rfl up_h) up_h ?_; clear hb_4 s0_3 s1_3 s6_3 s7_3; intro e_12 s4_12 s5_12
  refine then_n <| aw_ret <| ret2 (.inr rfl) (by kernel_rfl) (resV_tmp s4_12) (resV_tmp s5_12) (.ro _ rfl) (.ro _ rfl) ?_
  clear s4_12 s5_12 mo0_0 ml_0
  (first | (simp_all [size_mk]; done) | (simp_all [size_mk] <;> omega))
theorem kNumber_ok (below : Bool) : FnOkG Tryd.prog (gX es er) 40 [.v (.string tx), .v (.bool below)] (fun q => q = .tuple [.v (.int .i64 (numN tx.data.toList)), .v (.bool (numK tx.data.toList 11 && (below || decide (0 ≤ numN tx.data.toList))))]) := by
  by_cases h : ∃ v, atoiAll tx.data.toList = .ok v
  · obtain ⟨v, h⟩ := h
    exact kNumber_good es er tx hl below v h
  · exact kNumber_bad es er hes her tx hl below fun v hv => h ⟨v, hv⟩
end
end Go.Proofs.YtfmjmngkgmlghaaDoor
