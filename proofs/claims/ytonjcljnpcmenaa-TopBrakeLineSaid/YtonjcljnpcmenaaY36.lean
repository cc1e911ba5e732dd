/- Contracts of chapter 1: deviations, as the document has them. No conditions on a program. -/
import Derived.Test.YtonjcljnpcmenaaM7
namespace Go.Proofs.Ytonjcljnpcmenaa
open Go Go.RowKit Go.Proofs
set_option linter.unusedSimpArgs false
set_option linter.unusedVariables false
set_option maxRecDepth 100000 in
set_option maxHeartbeats 1000000 in
theorem bFloor_ok (n k : Int) (hk : 1 ≤ k) (hn : -4000000000000000000 ≤ n ∧ n ≤ 4000000000000000000) : FnOk Try.prog 57 [mA n, mA k] (fun q => q = mA (n / k)) := by
  have hb := tdiv_bd hn k
  have hf := fdivF (n := n) hk
  refine fnOk_of (fn := Try.f57) 16 (by kernel_rfl) rfl (by kernel_rfl) (Nat.le_of_ble_eq_true rfl) ?_
  intro e_0 m_0 hA hm_0
  have s0_0 : evA e_0 (.tmp 0) = _ := hA 0 _ rfl
  have s1_0 : evA e_0 (.tmp 1) = _ := hA 1 _ rfl
  have ml_0 : m_0.length = 0 := by rw [hm_0]; rfl
  clear hA hm_0
  refine aw_seq <| at_ <| ar (ro_assign ev_c) rfl <| ae2 (up_m rfl s0_0) (up_m rfl s1_0) ?_; clear s0_0 s1_0; intro e_1 s0_1 s1_1
  refine then_n <| aw_seq <| at_ <| ar (ro_move s0_1) rfl <| ar (ro_move (up_m rfl s1_1)) rfl ?_
  (refine ar (ro_quo' (up_m rfl up_h) up_h (by omega) ?_) rfl ?_; · (unfold In64; omega))
  refine ar (ro_assign up_h) rfl <| ae3 (u4 rfl s0_1) (u4 rfl s1_1) up_h ?_; clear s0_1 s1_1; intro e_2 s0_2 s1_2 s5_2
  refine then_n <| aw_seq <| aw_seq <| at_ <| ar (ro_move s0_2) rfl <| ar (ro_move (up_m rfl s1_2)) rfl <| ar (ro_rem (up_m rfl up_h) up_h (by omega)) rfl ?_
  refine ar (ro_lss up_h ev_c) rfl <| ae2 (u4 rfl s5_2) up_h ?_; clear s0_2 s1_2 s5_2; intro e_3 s5_3 s12_3
  refine then_n <| aw_case s12_3 (fun hq_4 => ?_) (fun hq_4 => ?_)
  ·replace hq_4 := bt hq_4
   refine at_ <| ar (ro_move s5_3) rfl ?_
   (refine ar (ro_sub' up_h ev_c ?_) rfl ?_; · (unfold In64; omega))
   refine ar (ro_assign up_h) rfl <| ae1 up_h ?_; clear s12_3 s5_3; intro e_5 s5_5
   refine then_n <| aw_seq <| at_ <| ar (ro_move s5_5) rfl <| ar (ro_assign up_h) rfl <| ae1 up_h ?_; clear s5_5; intro e_6 s4_6
   refine then_n <| aw_ret <| ret1 (.inr rfl) (by kernel_rfl) (resV_tmp s4_6) (.ro _ rfl) ?_
   clear s4_6  ml_0
   (refine avj ?_; exact hf.1 (by assumption))
  replace hq_4 := bf hq_4
  refine aw_skip <| then_n <| aw_seq <| at_ <| ar (ro_move s5_3) rfl <| ar (ro_assign up_h) rfl <| ae1 up_h ?_; clear s12_3 s5_3; intro e_7 s4_7
  refine then_n <| aw_ret <| ret1 (.inr rfl) (by kernel_rfl) (resV_tmp s4_7) (.ro _ rfl) ?_
  clear s4_7  ml_0
  (refine avj ?_; exact hf.2 (by assumption))
end Go.Proofs.Ytonjcljnpcmenaa
