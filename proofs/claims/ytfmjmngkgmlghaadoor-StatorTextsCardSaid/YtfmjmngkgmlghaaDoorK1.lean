/- Contracts of the lowest functions of chapter 5. No conditions on a program. -/
import Derived.Test.YtfmjmngkgmlghaaDoorA12
import Derived.Test.YtfmjmngkgmlghaaDoorProg
namespace Go.Proofs.YtfmjmngkgmlghaaDoor
open Go Go.RowKit Go.Proofs
set_option linter.unusedSimpArgs false
set_option linter.unusedVariables false
def withinB (n lo hi : Int) : Bool := decide (lo ≤ n) && decide (n ≤ hi)
set_option maxRecDepth 100000 in
set_option maxHeartbeats 1000000 in
theorem bWithin_ok (n lo hi : Int) : FnOk Tryd.prog 42 [.v (.int .i64 n), .v (.int .i64 lo), .v (.int .i64 hi)] (fun q => q = .v (.bool (withinB n lo hi))) := by
  refine fnOk_of (fn := Tryd.f42) 15 (by kernel_rfl) rfl (by kernel_rfl) (Nat.le_of_ble_eq_true rfl) ?_
  intro e_0 m_0 hA hm_0
  have s0_0 : evA e_0 (.tmp 0) = _ := hA 0 _ rfl
  have s1_0 : evA e_0 (.tmp 1) = _ := hA 1 _ rfl
  have s2_0 : evA e_0 (.tmp 2) = _ := hA 2 _ rfl
  have ml_0 : m_0.length = 0 := by rw [hm_0]; rfl
  clear hA hm_0
  refine aw_seq <| at_ <| ar (ro_assign ev_c) rfl <| ae3 (up_m rfl s0_0) (up_m rfl s1_0) (up_m rfl s2_0) ?_; clear s0_0 s1_0 s2_0; intro e_1 s0_1 s1_1 s2_1
  refine then_n <| aw_seq <| at_ <| ar (ro_move s1_1) rfl <| ar (ro_move (up_m rfl s0_1)) rfl <| ar (ro_leq (up_m rfl up_h) up_h) rfl <| ar (ro_move up_h) rfl <| al_case up_h (fun hb_2 hq_2 => ?_) (fun hb_2 hq_2 => ?_)
  ·replace hq_2 := bt hq_2
   refine al_ro' (ro_move (u4 rfl s0_1)) ⟨_, rfl, hb_2⟩ rfl ?_
   refine al_ro' (ro_move (up_m rfl (u4 rfl s2_1))) ⟨_, rfl, (up_m rfl hb_2)⟩ rfl ?_
   refine al_ro' (ro_leq (up_m rfl up_h) up_h) ⟨_, rfl, (u2 rfl hb_2)⟩ rfl ?_
   refine ar (ro_pickT (up_m rfl (u2 rfl hb_2)) up_h) rfl <| ar (ro_assign up_h) rfl <| ae1 up_h ?_; clear hb_2 s0_1 s1_1 s2_1; intro e_3 s6_3
   refine then_n <| aw_ret <| ret1 (.inr rfl) (by kernel_rfl) (resV_tmp s6_3) (.ro _ rfl) ?_
   clear s6_3  ml_0
   (first | rfl | (simp [withinB, *]; done) | (simp [withinB, *] <;> omega) | (simp_all [withinB]; done) | (simp_all [withinB] <;> omega))
  replace hq_2 := bf hq_2
  refine al_skip' ⟨_, rfl, .inl hb_2⟩ rfl ?_
  refine al_skip' ⟨_, rfl, .inl (up_m rfl hb_2)⟩ rfl ?_
  refine al_skip' ⟨_, rfl, .inl (u2 rfl hb_2)⟩ rfl ?_
  refine ar (ro_pickF (up_m rfl (u2 rfl hb_2)) ev_c) rfl <| ar (ro_assign up_h) rfl <| ae1 up_h ?_; clear hb_2 s0_1 s1_1 s2_1; intro e_4 s6_4
  refine then_n <| aw_ret <| ret1 (.inr rfl) (by kernel_rfl) (resV_tmp s6_4) (.ro _ rfl) ?_
  clear s6_4  ml_0
  (first | rfl | (simp [withinB, *]; done) | (simp [withinB, *] <;> omega) | (simp_all [withinB]; done) | (simp_all [withinB] <;> omega))
def unlessE (ok : Bool) (e : Int) : Int := if ok then 0 else e
def firstE : List Int → Int
  | [] => 0
  | e :: l => if e = 0 then firstE l else e
theorem firstE_drop {l : List Int} {i : Nat} (h : i < l.length) : firstE (l.drop i) = if l.getD i 0 = 0 then firstE (l.drop (i + 1)) else l.getD i 0 := by
  rw [List.drop_eq_getElem_cons h]
  simp [firstE, List.getD_eq_getElem?_getD, h]
end Go.Proofs.YtfmjmngkgmlghaaDoor
