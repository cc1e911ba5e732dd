/- Contracts of the lowest functions of chapter 5. No conditions on a program. -/
import Derived.Test.YtknclifdncmgpaaA12
import Derived.Test.YtknclifdncmgpaaProg
namespace Go.Proofs.Ytknclifdncmgpaa
open Go Go.RowKit Go.Proofs
set_option linter.unusedSimpArgs false
set_option linter.unusedVariables false


def withinB (n lo hi : Int) : Bool := decide (lo ≤ n) && decide (n ≤ hi)
set_option maxRecDepth 100000 in
set_option maxHeartbeats 1000000 in
theorem bWithin_ok (n lo hi : Int) : FnOk Try.prog 22 [.v (.int .i64 n), .v (.int .i64 lo), .v (.int .i64 hi)] (fun q => q = .v (.bool (withinB n lo hi))) := by
  refine fnOk_of (fn := Try.f22) 15 (by kernel_rfl) rfl (by kernel_rfl) (Nat.le_of_ble_eq_true rfl) ?_
  intro e_0 m_0 hA hm_0
  have s0_0 : evA e_0 (.tmp 0) = _ := hA 0 _ rfl
  have s1_0 : evA e_0 (.tmp 1) = _ := hA 1 _ rfl
  have s2_0 : evA e_0 (.tmp 2) = _ := hA 2 _ rfl
  have ml_0 : m_0.length = 0 := by rw [hm_0]; rfl
  clear hA hm_0
  refine aw_seq ?_
  refine aw_text (by kernel_rfl) ?_
  refine al_ro' (ro_assign ev_c) trivial rfl ?_
  refine al_end (fun e_1 he_1 => ?_)
  have s0_1 := ef 0 he_1 (up_m rfl s0_0)
  have s1_1 := ef 1 he_1 (up_m rfl s1_0)
  have s2_1 := ef 2 he_1 (up_m rfl s2_0)
  clear he_1 s0_0 s1_0 s2_0
  refine then_n ?_
  refine aw_seq ?_
  refine aw_text (by kernel_rfl) ?_
  refine al_ro' (ro_move s1_1) trivial rfl ?_
  refine al_ro' (ro_move (up_m rfl s0_1)) trivial rfl ?_
  refine al_ro' (ro_leq (up_m rfl up_h) up_h) trivial rfl ?_
  refine al_ro' (ro_move up_h) trivial rfl ?_
  refine al_case up_h (fun hb_2 hq_2 => ?_) (fun hb_2 hq_2 => ?_)
  ·replace hq_2 := bt hq_2
   refine al_ro' (ro_move (u4 rfl s0_1)) ⟨_, rfl, hb_2⟩ rfl ?_
   refine al_ro' (ro_move (up_m rfl (u4 rfl s2_1))) ⟨_, rfl, (up_m rfl hb_2)⟩ rfl ?_
   refine al_ro' (ro_leq (up_m rfl up_h) up_h) ⟨_, rfl, (u2 rfl hb_2)⟩ rfl ?_
   refine al_ro' (ro_pickT (up_m rfl (u2 rfl hb_2)) up_h) trivial rfl ?_
   refine al_ro' (ro_assign up_h) trivial rfl ?_
   refine al_end (fun e_3 he_3 => ?_)
   have s6_3 := ef 6 he_3 up_h
   clear he_3 hb_2 s0_1 s1_1 s2_1
   refine then_n ?_
   refine aw_ret ?_
   refine ret1 (.inr rfl) (by kernel_rfl) (resV_tmp s6_3) (.ro _ rfl) ?_
   clear s6_3  ml_0
   (first | rfl | (simp [withinB, *]; done) | (simp [withinB, *] <;> omega) | (simp_all [withinB]; done) | (simp_all [withinB] <;> omega))
  replace hq_2 := bf hq_2
  refine al_skip' ⟨_, rfl, .inl hb_2⟩ rfl ?_
  refine al_skip' ⟨_, rfl, .inl (up_m rfl hb_2)⟩ rfl ?_
  refine al_skip' ⟨_, rfl, .inl (u2 rfl hb_2)⟩ rfl ?_
  refine al_ro' (ro_pickF (up_m rfl (u2 rfl hb_2)) ev_c) trivial rfl ?_
  refine al_ro' (ro_assign up_h) trivial rfl ?_
  refine al_end (fun e_4 he_4 => ?_)
  have s6_4 := ef 6 he_4 up_h
  clear he_4 hb_2 s0_1 s1_1 s2_1
  refine then_n ?_
  refine aw_ret ?_
  refine ret1 (.inr rfl) (by kernel_rfl) (resV_tmp s6_4) (.ro _ rfl) ?_
  clear s6_4  ml_0
  (first | rfl | (simp [withinB, *]; done) | (simp [withinB, *] <;> omega) | (simp_all [withinB]; done) | (simp_all [withinB] <;> omega))
def unlessE (ok : Bool) (e : Int) : Int := if ok then 0 else e
def firstE : List Int → Int
  | [] => 0
  | e :: l => if e = 0 then firstE l else e
theorem firstE_drop {l : List Int} {i : Nat} (h : i < l.length) : firstE (l.drop i) = if l.getD i 0 = 0 then firstE (l.drop (i + 1)) else l.getD i 0 := by
  rw [List.drop_eq_getElem_cons h]
  simp [firstE, List.getD_eq_getElem?_getD, h]
end Go.Proofs.Ytknclifdncmgpaa
