/- Texts of this claim, one behind the other: lemmas for the statement. -/
import Derived.Test.YtonjcljnpcmenaaM6
import Derived.Test.YtonjcljnpcmenaaT0
/- Contracts: a quotient of two words by one, walked. No conditions on a program. -/
namespace Go.Proofs.Ytonjcljnpcmenaa
open Go Go.RowKit Go.Proofs
set_option linter.unusedSimpArgs false
set_option linter.unusedVariables false
theorem y46_hcf162 : ∀ args w, (callFunc 162 args).run Try.prog w = .ok (.enter 162 args) w := fun _ _ => by kernel_rfl

theorem avu {m n : Int} (h : m = n) : uA m = uA n := by rw [h]
theorem tup2 {a b c d : Int} (h1 : a = b) (h2 : c = d) : AV.tuple [uA a, uA c] = AV.tuple [uA b, uA d] := by rw [h1, h2]
set_option maxRecDepth 100000 in
set_option maxHeartbeats 4000000 in
theorem div64_walk (hi lo y : Int) (s : Nat) (p q2 Y u v : Int) (h : Dv hi lo y s p q2 Y u v) : FnOk Try.prog 139 [uA hi, uA lo, uA y] (fun q => q = .tuple [uA (dq1 Y u v * 4294967296 + dq0 Y u v), uA (dR Y u v / p)]) := by
  refine fnOk_of (fn := Try.f139) 135 (by kernel_rfl) rfl (by kernel_rfl) (Nat.le_of_ble_eq_true rfl) ?_
  intro e_0 m_0 hA hm_0
  have s0_0 : evA e_0 (.tmp 0) = _ := hA 0 _ rfl
  have s1_0 : evA e_0 (.tmp 1) = _ := hA 1 _ rfl
  have s2_0 : evA e_0 (.tmp 2) = _ := hA 2 _ rfl
  have ml_0 : m_0.length = 0 := by rw [hm_0]; rfl
  clear hA hm_0
  have hlo := h.lo0; have hh := h.hh; have hs := h.s0; have hYb := h.Yb; have hub := h.ub; have hv0 := h.hv; have hor := h.ok; have hip := h.hip; have a1 := h.hal1; have a2 := h.hal0; have hU := h.U; have hR := h.R; have b1 := a1.q; have b2 := a2.q; have f1 := a1.first; have f2 := a2.first; have hall := h.all; unfold InU64 at hlo hip; have g1 : 0 ≤ u / (Y / 4294967296) * (Y / 4294967296) := Int.mul_nonneg (Int.ediv_nonneg hub.1 (by omega)) (by omega); have g2 : 0 ≤ dU Y u v / (Y / 4294967296) * (Y / 4294967296) := Int.mul_nonneg (Int.ediv_nonneg hU.1 (by omega)) (by omega); have hyb : y ≤ Y := (by rw [← h.hY]; have hp1 : (1 : Int) ≤ p := (by rw [← h.hp]; exact_mod_cast Nat.pow_pos (by decide)); have := Int.mul_le_mul_of_nonneg_left hp1 (show 0 ≤ y by omega); omega); have c1 : dq1 Y u v = halQ (Y / 4294967296) (Y % 4294967296) u (v / 4294967296) := rfl; have c2 : dq0 Y u v = halQ (Y / 4294967296) (Y % 4294967296) (dU Y u v) (v % 4294967296) := rfl; have hor2 : OrOk (IntKind.u64.wrap (hi * ((2 ^ min ((s : Int)).toNat IntKind.u64.bits : Nat) : Int))) (lo / ((2 ^ min ((64 : Int) - (s : Int)).toNat IntKind.u64.bits : Nat) : Int)) := (by rw [shp (by omega), shq (by omega), h.hp, h.hq2, wrapU_in h.hip]; exact h.ok)
  refine aw_seq <| at_ <| ar (ro_assign ev_c) rfl <| ar (ro_assign ev_c) rfl <| ae3 (u2 rfl s0_0) (u2 rfl s1_0) (u2 rfl s2_0) ?_; clear s0_0 s1_0 s2_0; intro e_1 s0_1 s1_1 s2_1
  refine then_n <| aw_seq <| aw_seq <| at_ <| ar (ro_move s2_1) rfl <| ar (ro_eql up_h ev_c) rfl ?_
  refine ae4 (u2 rfl s0_1) (u2 rfl s1_1) (u2 rfl s2_1) up_h ?_; clear s0_1 s1_1 s2_1; intro e_2 s0_2 s1_2 s2_2 s20_2
  refine then_n <| aw_case s20_2 (fun hq_3 => ?_) (fun hq_3 => ?_)
  · replace hq_3 := bt hq_3; exfalso; omega
  replace hq_3 := bf hq_3
  refine aw_skip <| then_n <| aw_seq <| aw_seq <| at_ <| ar (ro_move s2_2) rfl <| ar (ro_move (up_m rfl s0_2)) rfl <| ar (ro_leq (up_m rfl up_h) up_h) rfl <| ae4 (up_m rfl (u2 rfl s0_2)) (up_m rfl (u2 rfl s1_2)) (up_m rfl (u2 rfl s2_2)) up_h ?_; clear s0_2 s1_2 s20_2 s2_2; intro e_4 s0_4 s1_4 s2_4 s24_4
  refine then_n <| aw_case s24_4 (fun hq_5 => ?_) (fun hq_5 => ?_)
  · replace hq_5 := bt hq_5; exfalso; omega
  replace hq_5 := bf hq_5
  refine aw_skip <| then_n <| aw_seq <| aw_seq <| at_ <| ar (ro_move s0_4) rfl <| ar (ro_eql up_h ev_c) rfl ?_
  refine ae4 (u2 rfl s0_4) (u2 rfl s1_4) (u2 rfl s2_4) up_h ?_; clear s0_4 s1_4 s24_4 s2_4; intro e_6 s0_6 s1_6 s2_6 s27_6
  refine then_n <| aw_case s27_6 (fun hq_7 => ?_) (fun hq_7 => ?_)
  · replace hq_7 := bt hq_7; exfalso; omega
  replace hq_7 := bf hq_7
  refine aw_skip <| then_n <| aw_seq <| aw_cut (fun e mem => (evA e (.tmp 8) = .v (.int .u64 s)) ∧ (evA e (.tmp 0) = evA e_6 (.tmp 0)) ∧ (evA e (.tmp 1) = evA e_6 (.tmp 1)) ∧ (evA e (.tmp 2) = evA e_6 (.tmp 2)) ∧ m_0 = mem) ?_ ?_
  ·
    refine at_ <| ar (ro_move s2_6) rfl <| ar (ro_call (evL_cons up_h evL_nil) rfl (lead64_ok y ⟨by omega, by omega⟩) y46_hcf162) rfl ?_
    refine ar (ro_cv (k' := .u64) up_h (by kernel_rfl) (by kernel_rfl)) rfl ?_
    refine ar (ro_assign up_h) rfl <| ae4 (u4 rfl s0_6) (u4 rfl s1_6) (u4 rfl s2_6) up_h ?_; intro e_9 s0_9 s1_9 s2_9 s8_9
    refine then_n ⟨(s8_9).trans (by (refine avu ?_; rw [← h.sb]; first | rfl | (rw [wrapU_eq]; have := h.sb; omega))), (s0_9).trans (s0_6).symm, (s1_9).trans (s1_6).symm, (s2_9).trans (s2_6).symm, rfl⟩
  · rintro e_8 _ ⟨s8_8, k0_8, k1_8, k2_8, rfl⟩
    have s0_8 := k0_8.trans s0_6
    have s1_8 := k1_8.trans s1_6
    have s2_8 := k2_8.trans s2_6
    refine aw_seq <| aw_cut (fun e mem => (evA e (.tmp 2) = .v (.int .u64 Y)) ∧ (evA e (.tmp 0) = evA e_8 (.tmp 0)) ∧ (evA e (.tmp 1) = evA e_8 (.tmp 1)) ∧ (evA e (.tmp 8) = evA e_8 (.tmp 8)) ∧ m_0 = mem) ?_ ?_
    ·
      refine at_ <| ar (ro_move s2_8) rfl <| ar (ro_move (up_m rfl s8_8)) rfl <| ar (ro_shl (up_m rfl up_h) up_h (by omega) rfl) rfl ?_
      refine ar (ro_assign up_h) rfl <| ae4 (u4 rfl s0_8) (u4 rfl s1_8) up_h (u4 rfl s8_8) ?_; intro e_11 s0_11 s1_11 s2_11 s8_11
      refine then_n ⟨(s2_11).trans (by (refine avu ?_; rw [shp (by omega), h.hp, h.hY, wrapU_eq]; omega)), (s0_11).trans (s0_8).symm, (s1_11).trans (s1_8).symm, (s8_11).trans (s8_8).symm, rfl⟩
    · rintro e_10 _ ⟨s2_10, k0_10, k1_10, k8_10, rfl⟩
      have s0_10 := k0_10.trans s0_8
      have s1_10 := k1_10.trans s1_8
      have s8_10 := k8_10.trans s8_8
      refine aw_seq <| at_ <| ar (ro_move s2_10) rfl <| ar (ro_shr (c := 4294967296) up_h ev_c (by decide) (by decide)) rfl ?_
      refine ar (ro_assign up_h) rfl <| ae5 (up_m rfl (u2 rfl s0_10)) (up_m rfl (u2 rfl s1_10)) (up_m rfl (u2 rfl s2_10)) (up_m rfl (u2 rfl s8_10)) up_h ?_; clear s0_10 s1_10 s2_10 s8_10; intro e_12 s0_12 s1_12 s2_12 s8_12 s9_12
      refine then_n <| aw_seq <| at_ <| ar (ro_move s2_12) rfl ?_
      (refine ar (ro_andL (c := 4294967296) up_h ev_c 32 (by decide) (by decide) (by decide) ?_) rfl ?_; · ((first | unfold In64 | unfold InU64); omega))
      refine ar (ro_assign up_h) rfl <| ae6 (up_m rfl (u2 rfl s0_12)) (up_m rfl (u2 rfl s1_12)) (up_m rfl (u2 rfl s2_12)) (up_m rfl (u2 rfl s8_12)) (up_m rfl (u2 rfl s9_12)) up_h ?_; clear s0_12 s1_12 s2_12 s8_12 s9_12; intro e_13 s0_13 s1_13 s2_13 s8_13 s9_13 s10_13
      refine then_n <| aw_seq <| aw_cut (fun e mem => (evA e (.tmp 11) = .v (.int .u64 u)) ∧ (evA e (.tmp 1) = evA e_13 (.tmp 1)) ∧ (evA e (.tmp 2) = evA e_13 (.tmp 2)) ∧ (evA e (.tmp 8) = evA e_13 (.tmp 8)) ∧ (evA e (.tmp 9) = evA e_13 (.tmp 9)) ∧ (evA e (.tmp 10) = evA e_13 (.tmp 10)) ∧ m_0 = mem) ?_ ?_
      ·
        refine at_ <| ar (ro_move s0_13) rfl <| ar (ro_move (up_m rfl s8_13)) rfl <| ar (ro_shl (up_m rfl up_h) up_h (by omega) rfl) rfl ?_
        refine ar (ro_move (up_m rfl (u2 rfl s1_13))) rfl <| ar (ro_move (u4 rfl s8_13)) rfl ?_
        (refine ar (ro_subU ev_c up_h ?_) rfl ?_; · ((first | unfold In64 | unfold InU64); omega))
        refine ar (ro_shr (u2 rfl up_h) up_h (by omega) rfl) rfl ?_
        refine ar (ro_orU (u4 rfl up_h) up_h (by assumption)) rfl ?_
        refine ar (ro_assign up_h) rfl <| ae6 (up_m rfl (u8 rfl s1_13)) (up_m rfl (u8 rfl s2_13)) (up_m rfl (u8 rfl s8_13)) (up_m rfl (u8 rfl s9_13)) (up_m rfl (u8 rfl s10_13)) up_h ?_; intro e_15 s1_15 s2_15 s8_15 s9_15 s10_15 s11_15
        refine then_n ⟨(s11_15).trans (by (refine avu ?_; rw [shp (by omega), shq (by omega), h.hp, h.hq2, wrapU_in h.hip, h.hu])), (s1_15).trans (s1_13).symm, (s2_15).trans (s2_13).symm, (s8_15).trans (s8_13).symm, (s9_15).trans (s9_13).symm, (s10_15).trans (s10_13).symm, rfl⟩
      · rintro e_14 _ ⟨s11_14, k1_14, k2_14, k8_14, k9_14, k10_14, rfl⟩
        have s1_14 := k1_14.trans s1_13
        have s2_14 := k2_14.trans s2_13
        have s8_14 := k8_14.trans s8_13
        have s9_14 := k9_14.trans s9_13
        have s10_14 := k10_14.trans s10_13
        refine aw_seq <| aw_cut (fun e mem => (evA e (.tmp 12) = .v (.int .u64 v)) ∧ (evA e (.tmp 2) = evA e_14 (.tmp 2)) ∧ (evA e (.tmp 8) = evA e_14 (.tmp 8)) ∧ (evA e (.tmp 9) = evA e_14 (.tmp 9)) ∧ (evA e (.tmp 10) = evA e_14 (.tmp 10)) ∧ (evA e (.tmp 11) = evA e_14 (.tmp 11)) ∧ m_0 = mem) ?_ ?_
        ·
          refine at_ <| ar (ro_move s1_14) rfl <| ar (ro_move (up_m rfl s8_14)) rfl <| ar (ro_shl (up_m rfl up_h) up_h (by omega) rfl) rfl ?_
          refine ar (ro_assign up_h) rfl <| ae6 (u4 rfl s2_14) (u4 rfl s8_14) (u4 rfl s9_14) (u4 rfl s10_14) (u4 rfl s11_14) up_h ?_; intro e_17 s2_17 s8_17 s9_17 s10_17 s11_17 s12_17
          refine then_n ⟨(s12_17).trans (by (refine avu ?_; rw [shp (by omega), h.hp, wrapU_eq, h.hv])), (s2_17).trans (s2_14).symm, (s8_17).trans (s8_14).symm, (s9_17).trans (s9_14).symm, (s10_17).trans (s10_14).symm, (s11_17).trans (s11_14).symm, rfl⟩
        · rintro e_16 _ ⟨s12_16, k2_16, k8_16, k9_16, k10_16, k11_16, rfl⟩
          have s2_16 := k2_16.trans s2_14
          have s8_16 := k8_16.trans s8_14
          have s9_16 := k9_16.trans s9_14
          have s10_16 := k10_16.trans s10_14
          have s11_16 := k11_16.trans s11_14
          refine aw_seq <| at_ <| ar (ro_move s12_16) rfl <| ar (ro_shr (c := 4294967296) up_h ev_c (by decide) (by decide)) rfl ?_
          refine ar (ro_assign up_h) rfl <| ae7 (up_m rfl (u2 rfl s2_16)) (up_m rfl (u2 rfl s8_16)) (up_m rfl (u2 rfl s9_16)) (up_m rfl (u2 rfl s10_16)) (up_m rfl (u2 rfl s11_16)) (up_m rfl (u2 rfl s12_16)) up_h ?_; clear s10_16 s11_16 s12_16 s2_16 s8_16 s9_16; intro e_18 s2_18 s8_18 s9_18 s10_18 s11_18 s12_18 s13_18
          refine then_n <| aw_seq <| at_ <| ar (ro_move s12_18) rfl ?_
          (refine ar (ro_andL (c := 4294967296) up_h ev_c 32 (by decide) (by decide) (by decide) ?_) rfl ?_; · ((first | unfold In64 | unfold InU64); omega))
          refine ar (ro_assign up_h) rfl <| ae7 (up_m rfl (u2 rfl s2_18)) (up_m rfl (u2 rfl s8_18)) (up_m rfl (u2 rfl s9_18)) (up_m rfl (u2 rfl s10_18)) (up_m rfl (u2 rfl s11_18)) (up_m rfl (u2 rfl s13_18)) up_h ?_; clear s10_18 s11_18 s12_18 s13_18 s2_18 s8_18 s9_18; intro e_19 s2_19 s8_19 s9_19 s10_19 s11_19 s13_19 s14_19
          refine then_n <| aw_seq <| at_ <| ar (ro_move s11_19) rfl <| ar (ro_move (up_m rfl s9_19)) rfl ?_
          (refine ar (ro_quoU (up_m rfl up_h) up_h (by omega) ?_) rfl ?_; · ((first | unfold In64 | unfold InU64); omega))
          refine ar (ro_assign up_h) rfl <| ae8 (u4 rfl s2_19) (u4 rfl s8_19) (u4 rfl s9_19) (u4 rfl s10_19) (u4 rfl s11_19) (u4 rfl s13_19) (u4 rfl s14_19) up_h ?_; clear s10_19 s11_19 s13_19 s14_19 s2_19 s8_19 s9_19; intro e_20 s2_20 s8_20 s9_20 s10_20 s11_20 s13_20 s14_20 s15_20
          refine then_n <| aw_seq <| at_ <| ar (ro_move s11_20) rfl <| ar (ro_move (up_m rfl s15_20)) rfl <| ar (ro_move (u2 rfl s9_20)) rfl ?_
          (refine ar (ro_mulU (up_m rfl up_h) up_h ?_) rfl ?_; · ((first | unfold In64 | unfold InU64); omega))
          (refine ar (ro_subU (up_m rfl (u2 rfl up_h)) up_h ?_) rfl ?_; · ((first | unfold In64 | unfold InU64); omega))
          refine ar (ro_assign up_h) rfl <| ae9 (u2 rfl (u4 rfl s2_20)) (u2 rfl (u4 rfl s8_20)) (u2 rfl (u4 rfl s9_20)) (u2 rfl (u4 rfl s10_20)) (u2 rfl (u4 rfl s11_20)) (u2 rfl (u4 rfl s13_20)) (u2 rfl (u4 rfl s14_20)) (u2 rfl (u4 rfl s15_20)) up_h ?_; clear s10_20 s11_20 s13_20 s14_20 s15_20 s2_20 s8_20 s9_20; intro e_21 s2_21 s8_21 s9_21 s10_21 s11_21 s13_21 s14_21 s15_21 s16_21
          refine then_n <| aw_seq <| aw_cut (fun e mem => (evA e (.tmp 15) = .v (.int .u64 (dq1 Y u v))) ∧ (evA e (.tmp 2) = evA e_21 (.tmp 2)) ∧ (evA e (.tmp 8) = evA e_21 (.tmp 8)) ∧ (evA e (.tmp 9) = evA e_21 (.tmp 9)) ∧ (evA e (.tmp 10) = evA e_21 (.tmp 10)) ∧ (evA e (.tmp 11) = evA e_21 (.tmp 11)) ∧ (evA e (.tmp 13) = evA e_21 (.tmp 13)) ∧ (evA e (.tmp 14) = evA e_21 (.tmp 14)) ∧ mem.length = 0) ?_ ?_
          ·
            refine aw_block <| aw_loop (S := (Int × Int)) (fun s e mem => match s with | ⟨q, r⟩ => (evA e (.tmp 15) = .v (.int .u64 q)) ∧ (evA e (.tmp 16) = .v (.int .u64 r)) ∧ (evA e (.tmp 2) = evA e_21 (.tmp 2)) ∧ (evA e (.tmp 8) = evA e_21 (.tmp 8)) ∧ (evA e (.tmp 9) = evA e_21 (.tmp 9)) ∧ (evA e (.tmp 10) = evA e_21 (.tmp 10)) ∧ (evA e (.tmp 11) = evA e_21 (.tmp 11)) ∧ (evA e (.tmp 13) = evA e_21 (.tmp 13)) ∧ (evA e (.tmp 14) = evA e_21 (.tmp 14)) ∧ (mem.length = 0) ∧ ((q * (Y / 4294967296) + r = u ∧ dq1 Y u v ≤ q ∧ q ≤ 4294967297 ∧ 0 ≤ r ∧ r < 4294967296))) (fun s => match s with | ⟨q, r⟩ => q.toNat) ⟨_, _⟩ ⟨s15_21, s16_21, rfl, rfl, rfl, rfl, rfl, rfl, rfl, ml_0, ?_⟩ ?_
            · (exact ⟨by omega, by omega, by omega, by omega, by omega⟩)
            · rintro ⟨q, r⟩ e_23 m_23 ⟨s15_23, s16_23, k2_23, k8_23, k9_23, k10_23, k11_23, k13_23, k14_23, ml_23, hinv⟩
              have s2_23 := k2_23.trans s2_21
              have s8_23 := k8_23.trans s8_21
              have s9_23 := k9_23.trans s9_21
              have s10_23 := k10_23.trans s10_21
              have s11_23 := k11_23.trans s11_21
              have s13_23 := k13_23.trans s13_21
              have s14_23 := k14_23.trans s14_21
              (obtain ⟨i1, i2, i3, i4, i5⟩ := hinv; have m0 : 0 ≤ q * (Y % 4294967296) ∧ q * (Y % 4294967296) ≤ 18446744073709551615 := (by have e1 := Int.mul_nonneg (show 0 ≤ q by omega) (show 0 ≤ Y % 4294967296 by omega); have e2 := Int.mul_le_mul (show q ≤ 4294967297 by omega) (show Y % 4294967296 ≤ 4294967295 by omega) (by omega) (by omega); omega); have m3 : (q - 1) * (Y / 4294967296) = q * (Y / 4294967296) - Y / 4294967296 := (by rw [Int.sub_mul, Int.one_mul]))
              refine aw_seq <| aw_seq <| at_ <| ar (ro_move s15_23) rfl <| ar (ro_geq up_h ev_c) rfl <| ar (ro_move up_h) rfl <| al_case up_h (fun hb_24 hq_24 => ?_) (fun hb_24 hq_24 => ?_)
              ·replace hq_24 := bt hq_24
               refine al_skip' ⟨_, rfl, .inl hb_24⟩ rfl ?_
               refine al_skip' ⟨_, rfl, .inl (up_m rfl hb_24)⟩ rfl ?_
               refine al_skip' ⟨_, rfl, .inl (u2 rfl hb_24)⟩ rfl ?_
               refine al_skip' ⟨_, rfl, .inl (up_m rfl (u2 rfl hb_24))⟩ rfl ?_
               refine al_skip' ⟨_, rfl, .inl (u4 rfl hb_24)⟩ rfl ?_
               refine al_skip' ⟨_, rfl, .inl (up_m rfl (u4 rfl hb_24))⟩ rfl ?_
               refine al_skip' ⟨_, rfl, .inl (u2 rfl (u4 rfl hb_24))⟩ rfl ?_
               refine al_skip' ⟨_, rfl, .inl (up_m rfl (u2 rfl (u4 rfl hb_24)))⟩ rfl ?_
               refine ar (ro_pickT (u8 rfl hb_24) ev_c) rfl <| ae10 (u4 rfl (u8 rfl s2_23)) (u4 rfl (u8 rfl s8_23)) (u4 rfl (u8 rfl s9_23)) (u4 rfl (u8 rfl s10_23)) (u4 rfl (u8 rfl s11_23)) (u4 rfl (u8 rfl s13_23)) (u4 rfl (u8 rfl s14_23)) (u4 rfl (u8 rfl s15_23)) (u4 rfl (u8 rfl s16_23)) up_h ?_; intro e_25 s2_25 s8_25 s9_25 s10_25 s11_25 s13_25 s14_25 s15_25 s16_25 s78_25
               refine then_n <| aw_true s78_25 <| aw_skip <| then_n <| aw_block <| aw_seq <| at_ <| ar (ro_move s15_25) rfl ?_
               (refine ar (ro_subU up_h ev_c ?_) rfl ?_; · ((first | unfold In64 | unfold InU64); omega))
               refine ar (ro_assign up_h) rfl <| ae9 (up_m rfl (u2 rfl s2_25)) (up_m rfl (u2 rfl s8_25)) (up_m rfl (u2 rfl s9_25)) (up_m rfl (u2 rfl s10_25)) (up_m rfl (u2 rfl s11_25)) (up_m rfl (u2 rfl s13_25)) (up_m rfl (u2 rfl s14_25)) up_h (up_m rfl (u2 rfl s16_25)) ?_; intro e_27 s2_27 s8_27 s9_27 s10_27 s11_27 s13_27 s14_27 s15_27 s16_27
               refine then_n <| aw_seq <| at_ <| ar (ro_move s16_27) rfl <| ar (ro_move (up_m rfl s9_27)) rfl ?_
               (refine ar (ro_addU (up_m rfl up_h) up_h ?_) rfl ?_; · ((first | unfold In64 | unfold InU64); omega))
               refine ar (ro_assign up_h) rfl <| ae9 (u4 rfl s2_27) (u4 rfl s8_27) (u4 rfl s9_27) (u4 rfl s10_27) (u4 rfl s11_27) (u4 rfl s13_27) (u4 rfl s14_27) (u4 rfl s15_27) up_h ?_; intro e_28 s2_28 s8_28 s9_28 s10_28 s11_28 s13_28 s14_28 s15_28 s16_28
               refine then_n <| aw_seq <| at_ <| ar (ro_move s16_28) rfl <| ar (ro_geq up_h ev_c) rfl <| ae10 (u2 rfl s2_28) (u2 rfl s8_28) (u2 rfl s9_28) (u2 rfl s10_28) (u2 rfl s11_28) (u2 rfl s13_28) (u2 rfl s14_28) (u2 rfl s15_28) (u2 rfl s16_28) up_h ?_; intro e_29 s2_29 s8_29 s9_29 s10_29 s11_29 s13_29 s14_29 s15_29 s16_29 s85_29
               refine then_n <| aw_case s85_29 (fun hq_30 => ?_) (fun hq_30 => ?_)
               ·replace hq_30 := bt hq_30
                (have hl := a1.less i1 i2 (.inl (by omega)); have hq1 : q - 1 = dq1 Y u v := a1.far (r := r + Y / 4294967296) (by omega) (by omega) (by omega) (by omega))
                refine aw_exit <| block_miss rfl <| then_x <| block_hit <| then_n ⟨(s15_29).trans (by exact avu hq1), (s2_29).trans (s2_21).symm, (s8_29).trans (s8_21).symm, (s9_29).trans (s9_21).symm, (s10_29).trans (s10_21).symm, (s11_29).trans (s11_21).symm, (s13_29).trans (s13_21).symm, (s14_29).trans (s14_21).symm, ml_23⟩
               replace hq_30 := bf hq_30
               (have hl := a1.less i1 i2 (.inl (by omega)))
               refine aw_skip <| block_n <| then_n <| ⟨⟨_, _⟩, ⟨s15_29, s16_29, (s2_29.trans s2_21.symm), (s8_29.trans s8_21.symm), (s9_29.trans s9_21.symm), (s10_29.trans s10_21.symm), (s11_29.trans s11_21.symm), (s13_29.trans s13_21.symm), (s14_29.trans s14_21.symm), ml_23, ?_⟩, ?_⟩
               · (exact ⟨by omega, by omega, by omega, by omega, by omega⟩)
               · ((try dsimp only); omega)
              replace hq_24 := bf hq_24
              refine al_ro' (ro_move (up_m rfl (u2 rfl s15_23))) ⟨_, rfl, hb_24⟩ rfl ?_
              refine al_ro' (ro_move (u4 rfl s10_23)) ⟨_, rfl, (up_m rfl hb_24)⟩ rfl ?_
              (refine al_ro' (ro_mulU (up_m rfl up_h) up_h ?_) ⟨_, rfl, (u2 rfl hb_24)⟩ rfl ?_; · ((first | unfold In64 | unfold InU64); omega))
              refine al_ro' (ro_move (u2 rfl (u4 rfl s16_23))) ⟨_, rfl, (up_m rfl (u2 rfl hb_24))⟩ rfl ?_
              (refine al_ro' (ro_mulU ev_c up_h ?_) ⟨_, rfl, (u4 rfl hb_24)⟩ rfl ?_; · ((first | unfold In64 | unfold InU64); omega))
              refine al_ro' (ro_move (u8 rfl s13_23)) ⟨_, rfl, (up_m rfl (u4 rfl hb_24))⟩ rfl ?_
              (refine al_ro' (ro_addU (up_m rfl up_h) up_h ?_) ⟨_, rfl, (u2 rfl (u4 rfl hb_24))⟩ rfl ?_; · ((first | unfold In64 | unfold InU64); omega))
              refine al_ro' (ro_gtr (u4 rfl up_h) up_h) ⟨_, rfl, (up_m rfl (u2 rfl (u4 rfl hb_24)))⟩ rfl ?_
              refine ar (ro_pickF (u8 rfl hb_24) up_h) rfl <| ae10 (u4 rfl (u8 rfl s2_23)) (u4 rfl (u8 rfl s8_23)) (u4 rfl (u8 rfl s9_23)) (u4 rfl (u8 rfl s10_23)) (u4 rfl (u8 rfl s11_23)) (u4 rfl (u8 rfl s13_23)) (u4 rfl (u8 rfl s14_23)) (u4 rfl (u8 rfl s15_23)) (u4 rfl (u8 rfl s16_23)) up_h ?_; intro e_31 s2_31 s8_31 s9_31 s10_31 s11_31 s13_31 s14_31 s15_31 s16_31 s78_31
              refine then_n <| aw_case s78_31 (fun hq_32 => ?_) (fun hq_32 => ?_)
              ·replace hq_32 := bt hq_32
               (have hl := a1.less i1 i2 (.inr (by omega)))
               refine aw_skip <| then_n <| aw_block <| aw_seq <| at_ <| ar (ro_move s15_31) rfl ?_
               (refine ar (ro_subU up_h ev_c ?_) rfl ?_; · ((first | unfold In64 | unfold InU64); omega))
               refine ar (ro_assign up_h) rfl <| ae9 (up_m rfl (u2 rfl s2_31)) (up_m rfl (u2 rfl s8_31)) (up_m rfl (u2 rfl s9_31)) (up_m rfl (u2 rfl s10_31)) (up_m rfl (u2 rfl s11_31)) (up_m rfl (u2 rfl s13_31)) (up_m rfl (u2 rfl s14_31)) up_h (up_m rfl (u2 rfl s16_31)) ?_; intro e_33 s2_33 s8_33 s9_33 s10_33 s11_33 s13_33 s14_33 s15_33 s16_33
               refine then_n <| aw_seq <| at_ <| ar (ro_move s16_33) rfl <| ar (ro_move (up_m rfl s9_33)) rfl ?_
               (refine ar (ro_addU (up_m rfl up_h) up_h ?_) rfl ?_; · ((first | unfold In64 | unfold InU64); omega))
               refine ar (ro_assign up_h) rfl <| ae9 (u4 rfl s2_33) (u4 rfl s8_33) (u4 rfl s9_33) (u4 rfl s10_33) (u4 rfl s11_33) (u4 rfl s13_33) (u4 rfl s14_33) (u4 rfl s15_33) up_h ?_; intro e_34 s2_34 s8_34 s9_34 s10_34 s11_34 s13_34 s14_34 s15_34 s16_34
               refine then_n <| aw_seq <| at_ <| ar (ro_move s16_34) rfl <| ar (ro_geq up_h ev_c) rfl <| ae10 (u2 rfl s2_34) (u2 rfl s8_34) (u2 rfl s9_34) (u2 rfl s10_34) (u2 rfl s11_34) (u2 rfl s13_34) (u2 rfl s14_34) (u2 rfl s15_34) (u2 rfl s16_34) up_h ?_; intro e_35 s2_35 s8_35 s9_35 s10_35 s11_35 s13_35 s14_35 s15_35 s16_35 s85_35
               refine then_n <| aw_case s85_35 (fun hq_36 => ?_) (fun hq_36 => ?_)
               ·replace hq_36 := bt hq_36
                (have hq1 : q - 1 = dq1 Y u v := a1.far (r := r + Y / 4294967296) (by omega) (by omega) (by omega) (by omega))
                refine aw_exit <| block_miss rfl <| then_x <| block_hit <| then_n ⟨(s15_35).trans (by exact avu hq1), (s2_35).trans (s2_21).symm, (s8_35).trans (s8_21).symm, (s9_35).trans (s9_21).symm, (s10_35).trans (s10_21).symm, (s11_35).trans (s11_21).symm, (s13_35).trans (s13_21).symm, (s14_35).trans (s14_21).symm, ml_23⟩
               replace hq_36 := bf hq_36
               refine aw_skip <| block_n <| then_n <| ⟨⟨_, _⟩, ⟨s15_35, s16_35, (s2_35.trans s2_21.symm), (s8_35.trans s8_21.symm), (s9_35.trans s9_21.symm), (s10_35.trans s10_21.symm), (s11_35.trans s11_21.symm), (s13_35.trans s13_21.symm), (s14_35.trans s14_21.symm), ml_23, ?_⟩, ?_⟩
               · (exact ⟨by omega, by omega, by omega, by omega, by omega⟩)
               · ((try dsimp only); omega)
              replace hq_32 := bf hq_32
              (have hq1 : q = dq1 Y u v := a1.done i1 i2 (by omega))
              refine aw_exit <| then_x <| then_x <| block_hit <| then_n ⟨(s15_31).trans (by exact avu hq1), (s2_31).trans (s2_21).symm, (s8_31).trans (s8_21).symm, (s9_31).trans (s9_21).symm, (s10_31).trans (s10_21).symm, (s11_31).trans (s11_21).symm, (s13_31).trans (s13_21).symm, (s14_31).trans (s14_21).symm, ml_23⟩
          · rintro e_22 m_22 ⟨s15_22, k2_22, k8_22, k9_22, k10_22, k11_22, k13_22, k14_22, ml_22⟩
            have s2_22 := k2_22.trans s2_21
            have s8_22 := k8_22.trans s8_21
            have s9_22 := k9_22.trans s9_21
            have s10_22 := k10_22.trans s10_21
            have s11_22 := k11_22.trans s11_21
            have s13_22 := k13_22.trans s13_21
            have s14_22 := k14_22.trans s14_21
            refine aw_seq <| aw_cut (fun e mem => (evA e (.tmp 17) = .v (.int .u64 (dU Y u v))) ∧ (evA e (.tmp 2) = evA e_22 (.tmp 2)) ∧ (evA e (.tmp 8) = evA e_22 (.tmp 8)) ∧ (evA e (.tmp 9) = evA e_22 (.tmp 9)) ∧ (evA e (.tmp 10) = evA e_22 (.tmp 10)) ∧ (evA e (.tmp 14) = evA e_22 (.tmp 14)) ∧ (evA e (.tmp 15) = evA e_22 (.tmp 15)) ∧ m_22 = mem) ?_ ?_
            ·
              refine at_ <| ar (ro_move s11_22) rfl <| ar (ro_mul up_h ev_c) rfl <| ar (ro_move (u2 rfl s13_22)) rfl <| ar (ro_add (up_m rfl up_h) up_h) rfl <| ar (ro_move (u4 rfl s15_22)) rfl <| ar (ro_move (up_m rfl (u4 rfl s2_22))) rfl <| ar (ro_mul (up_m rfl up_h) up_h) rfl <| ar (ro_sub (up_m rfl (u2 rfl up_h)) up_h) rfl <| ar (ro_assign up_h) rfl <| ae7 (up_m rfl (u8 rfl s2_22)) (up_m rfl (u8 rfl s8_22)) (up_m rfl (u8 rfl s9_22)) (up_m rfl (u8 rfl s10_22)) (up_m rfl (u8 rfl s14_22)) (up_m rfl (u8 rfl s15_22)) up_h ?_; intro e_38 s2_38 s8_38 s9_38 s10_38 s14_38 s15_38 s17_38
              refine then_n ⟨(s17_38).trans (by (refine avu ?_; simp only [wrapU_eq]; unfold dU at hU ⊢; omega)), (s2_38).trans (s2_22).symm, (s8_38).trans (s8_22).symm, (s9_38).trans (s9_22).symm, (s10_38).trans (s10_22).symm, (s14_38).trans (s14_22).symm, (s15_38).trans (s15_22).symm, rfl⟩
            · rintro e_37 _ ⟨s17_37, k2_37, k8_37, k9_37, k10_37, k14_37, k15_37, rfl⟩
              have s2_37 := k2_37.trans s2_22
              have s8_37 := k8_37.trans s8_22
              have s9_37 := k9_37.trans s9_22
              have s10_37 := k10_37.trans s10_22
              have s14_37 := k14_37.trans s14_22
              have s15_37 := k15_37.trans s15_22
              refine aw_seq <| at_ <| ar (ro_move s17_37) rfl <| ar (ro_move (up_m rfl s9_37)) rfl ?_
              (refine ar (ro_quoU (up_m rfl up_h) up_h (by omega) ?_) rfl ?_; · ((first | unfold In64 | unfold InU64); omega))
              refine ar (ro_assign up_h) rfl <| ae8 (u4 rfl s2_37) (u4 rfl s8_37) (u4 rfl s9_37) (u4 rfl s10_37) (u4 rfl s14_37) (u4 rfl s15_37) (u4 rfl s17_37) up_h ?_; clear s10_37 s14_37 s15_37 s17_37 s2_37 s8_37 s9_37; intro e_39 s2_39 s8_39 s9_39 s10_39 s14_39 s15_39 s17_39 s18_39
              refine then_n <| aw_seq <| at_ <| ar (ro_move s17_39) rfl <| ar (ro_move (up_m rfl s18_39)) rfl <| ar (ro_move (u2 rfl s9_39)) rfl ?_
              (refine ar (ro_mulU (up_m rfl up_h) up_h ?_) rfl ?_; · ((first | unfold In64 | unfold InU64); omega))
              (refine ar (ro_subU (up_m rfl (u2 rfl up_h)) up_h ?_) rfl ?_; · ((first | unfold In64 | unfold InU64); omega))
              refine ar (ro_assign up_h) rfl <| ae9 (u2 rfl (u4 rfl s2_39)) (u2 rfl (u4 rfl s8_39)) (u2 rfl (u4 rfl s9_39)) (u2 rfl (u4 rfl s10_39)) (u2 rfl (u4 rfl s14_39)) (u2 rfl (u4 rfl s15_39)) up_h (u2 rfl (u4 rfl s17_39)) (u2 rfl (u4 rfl s18_39)) ?_; clear s10_39 s14_39 s15_39 s17_39 s18_39 s2_39 s8_39 s9_39; intro e_40 s2_40 s8_40 s9_40 s10_40 s14_40 s15_40 s16_40 s17_40 s18_40
              refine then_n <| aw_seq <| aw_cut (fun e mem => (evA e (.tmp 18) = .v (.int .u64 (dq0 Y u v))) ∧ (evA e (.tmp 2) = evA e_40 (.tmp 2)) ∧ (evA e (.tmp 8) = evA e_40 (.tmp 8)) ∧ (evA e (.tmp 14) = evA e_40 (.tmp 14)) ∧ (evA e (.tmp 15) = evA e_40 (.tmp 15)) ∧ (evA e (.tmp 17) = evA e_40 (.tmp 17)) ∧ mem.length = 0) ?_ ?_
              ·
                refine aw_block <| aw_loop (S := (Int × Int)) (fun s e mem => match s with | ⟨x, z⟩ => (evA e (.tmp 18) = .v (.int .u64 x)) ∧ (evA e (.tmp 16) = .v (.int .u64 z)) ∧ (evA e (.tmp 2) = evA e_40 (.tmp 2)) ∧ (evA e (.tmp 8) = evA e_40 (.tmp 8)) ∧ (evA e (.tmp 9) = evA e_40 (.tmp 9)) ∧ (evA e (.tmp 10) = evA e_40 (.tmp 10)) ∧ (evA e (.tmp 14) = evA e_40 (.tmp 14)) ∧ (evA e (.tmp 15) = evA e_40 (.tmp 15)) ∧ (evA e (.tmp 17) = evA e_40 (.tmp 17)) ∧ (mem.length = 0) ∧ ((x * (Y / 4294967296) + z = dU Y u v ∧ dq0 Y u v ≤ x ∧ x ≤ 4294967297 ∧ 0 ≤ z ∧ z < 4294967296))) (fun s => match s with | ⟨x, z⟩ => x.toNat) ⟨_, _⟩ ⟨s18_40, s16_40, rfl, rfl, rfl, rfl, rfl, rfl, rfl, ml_22, ?_⟩ ?_
                · (exact ⟨by omega, by omega, by omega, by omega, by omega⟩)
                · rintro ⟨x, z⟩ e_42 m_42 ⟨s18_42, s16_42, k2_42, k8_42, k9_42, k10_42, k14_42, k15_42, k17_42, ml_42, hinv⟩
                  have s2_42 := k2_42.trans s2_40
                  have s8_42 := k8_42.trans s8_40
                  have s9_42 := k9_42.trans s9_40
                  have s10_42 := k10_42.trans s10_40
                  have s14_42 := k14_42.trans s14_40
                  have s15_42 := k15_42.trans s15_40
                  have s17_42 := k17_42.trans s17_40
                  (obtain ⟨k1, k2, k3, k4, k5⟩ := hinv; have n0 : 0 ≤ x * (Y % 4294967296) ∧ x * (Y % 4294967296) ≤ 18446744073709551615 := (by have e1 := Int.mul_nonneg (show 0 ≤ x by omega) (show 0 ≤ Y % 4294967296 by omega); have e2 := Int.mul_le_mul (show x ≤ 4294967297 by omega) (show Y % 4294967296 ≤ 4294967295 by omega) (by omega) (by omega); omega); have n3 : (x - 1) * (Y / 4294967296) = x * (Y / 4294967296) - Y / 4294967296 := (by rw [Int.sub_mul, Int.one_mul]))
                  refine aw_seq <| aw_seq <| at_ <| ar (ro_move s18_42) rfl <| ar (ro_geq up_h ev_c) rfl <| ar (ro_move up_h) rfl <| al_case up_h (fun hb_43 hq_43 => ?_) (fun hb_43 hq_43 => ?_)
                  ·replace hq_43 := bt hq_43
                   refine al_skip' ⟨_, rfl, .inl hb_43⟩ rfl ?_
                   refine al_skip' ⟨_, rfl, .inl (up_m rfl hb_43)⟩ rfl ?_
                   refine al_skip' ⟨_, rfl, .inl (u2 rfl hb_43)⟩ rfl ?_
                   refine al_skip' ⟨_, rfl, .inl (up_m rfl (u2 rfl hb_43))⟩ rfl ?_
                   refine al_skip' ⟨_, rfl, .inl (u4 rfl hb_43)⟩ rfl ?_
                   refine al_skip' ⟨_, rfl, .inl (up_m rfl (u4 rfl hb_43))⟩ rfl ?_
                   refine al_skip' ⟨_, rfl, .inl (u2 rfl (u4 rfl hb_43))⟩ rfl ?_
                   refine al_skip' ⟨_, rfl, .inl (up_m rfl (u2 rfl (u4 rfl hb_43)))⟩ rfl ?_
                   refine ar (ro_pickT (u8 rfl hb_43) ev_c) rfl <| ae10 (u4 rfl (u8 rfl s2_42)) (u4 rfl (u8 rfl s8_42)) (u4 rfl (u8 rfl s9_42)) (u4 rfl (u8 rfl s10_42)) (u4 rfl (u8 rfl s14_42)) (u4 rfl (u8 rfl s15_42)) (u4 rfl (u8 rfl s16_42)) (u4 rfl (u8 rfl s17_42)) (u4 rfl (u8 rfl s18_42)) up_h ?_; intro e_44 s2_44 s8_44 s9_44 s10_44 s14_44 s15_44 s16_44 s17_44 s18_44 s113_44
                   refine then_n <| aw_true s113_44 <| aw_skip <| then_n <| aw_block <| aw_seq <| at_ <| ar (ro_move s18_44) rfl ?_
                   (refine ar (ro_subU up_h ev_c ?_) rfl ?_; · ((first | unfold In64 | unfold InU64); omega))
                   refine ar (ro_assign up_h) rfl <| ae9 (up_m rfl (u2 rfl s2_44)) (up_m rfl (u2 rfl s8_44)) (up_m rfl (u2 rfl s9_44)) (up_m rfl (u2 rfl s10_44)) (up_m rfl (u2 rfl s14_44)) (up_m rfl (u2 rfl s15_44)) (up_m rfl (u2 rfl s16_44)) (up_m rfl (u2 rfl s17_44)) up_h ?_; intro e_46 s2_46 s8_46 s9_46 s10_46 s14_46 s15_46 s16_46 s17_46 s18_46
                   refine then_n <| aw_seq <| at_ <| ar (ro_move s16_46) rfl <| ar (ro_move (up_m rfl s9_46)) rfl ?_
                   (refine ar (ro_addU (up_m rfl up_h) up_h ?_) rfl ?_; · ((first | unfold In64 | unfold InU64); omega))
                   refine ar (ro_assign up_h) rfl <| ae9 (u4 rfl s2_46) (u4 rfl s8_46) (u4 rfl s9_46) (u4 rfl s10_46) (u4 rfl s14_46) (u4 rfl s15_46) up_h (u4 rfl s17_46) (u4 rfl s18_46) ?_; intro e_47 s2_47 s8_47 s9_47 s10_47 s14_47 s15_47 s16_47 s17_47 s18_47
                   refine then_n <| aw_seq <| at_ <| ar (ro_move s16_47) rfl <| ar (ro_geq up_h ev_c) rfl <| ae10 (u2 rfl s2_47) (u2 rfl s8_47) (u2 rfl s9_47) (u2 rfl s10_47) (u2 rfl s14_47) (u2 rfl s15_47) (u2 rfl s16_47) (u2 rfl s17_47) (u2 rfl s18_47) up_h ?_; intro e_48 s2_48 s8_48 s9_48 s10_48 s14_48 s15_48 s16_48 s17_48 s18_48 s120_48
                   refine then_n <| aw_case s120_48 (fun hq_49 => ?_) (fun hq_49 => ?_)
                   ·replace hq_49 := bt hq_49
                    (have hl2 := a2.less k1 k2 (.inl (by omega)); have hq2 : x - 1 = dq0 Y u v := a2.far (r := z + Y / 4294967296) (by omega) (by omega) (by omega) (by omega))
                    refine aw_exit <| block_miss rfl <| then_x <| block_hit <| then_n ⟨(s18_48).trans (by exact avu hq2), (s2_48).trans (s2_40).symm, (s8_48).trans (s8_40).symm, (s14_48).trans (s14_40).symm, (s15_48).trans (s15_40).symm, (s17_48).trans (s17_40).symm, ml_42⟩
                   replace hq_49 := bf hq_49
                   (have hl2 := a2.less k1 k2 (.inl (by omega)))
                   refine aw_skip <| block_n <| then_n <| ⟨⟨_, _⟩, ⟨s18_48, s16_48, (s2_48.trans s2_40.symm), (s8_48.trans s8_40.symm), (s9_48.trans s9_40.symm), (s10_48.trans s10_40.symm), (s14_48.trans s14_40.symm), (s15_48.trans s15_40.symm), (s17_48.trans s17_40.symm), ml_42, ?_⟩, ?_⟩
                   · (exact ⟨by omega, by omega, by omega, by omega, by omega⟩)
                   · ((try dsimp only); omega)
                  replace hq_43 := bf hq_43
                  refine al_ro' (ro_move (up_m rfl (u2 rfl s18_42))) ⟨_, rfl, hb_43⟩ rfl ?_
                  refine al_ro' (ro_move (u4 rfl s10_42)) ⟨_, rfl, (up_m rfl hb_43)⟩ rfl ?_
                  (refine al_ro' (ro_mulU (up_m rfl up_h) up_h ?_) ⟨_, rfl, (u2 rfl hb_43)⟩ rfl ?_; · ((first | unfold In64 | unfold InU64); omega))
                  refine al_ro' (ro_move (u2 rfl (u4 rfl s16_42))) ⟨_, rfl, (up_m rfl (u2 rfl hb_43))⟩ rfl ?_
                  (refine al_ro' (ro_mulU ev_c up_h ?_) ⟨_, rfl, (u4 rfl hb_43)⟩ rfl ?_; · ((first | unfold In64 | unfold InU64); omega))
                  refine al_ro' (ro_move (u8 rfl s14_42)) ⟨_, rfl, (up_m rfl (u4 rfl hb_43))⟩ rfl ?_
                  (refine al_ro' (ro_addU (up_m rfl up_h) up_h ?_) ⟨_, rfl, (u2 rfl (u4 rfl hb_43))⟩ rfl ?_; · ((first | unfold In64 | unfold InU64); omega))
                  refine al_ro' (ro_gtr (u4 rfl up_h) up_h) ⟨_, rfl, (up_m rfl (u2 rfl (u4 rfl hb_43)))⟩ rfl ?_
                  refine ar (ro_pickF (u8 rfl hb_43) up_h) rfl <| ae10 (u4 rfl (u8 rfl s2_42)) (u4 rfl (u8 rfl s8_42)) (u4 rfl (u8 rfl s9_42)) (u4 rfl (u8 rfl s10_42)) (u4 rfl (u8 rfl s14_42)) (u4 rfl (u8 rfl s15_42)) (u4 rfl (u8 rfl s16_42)) (u4 rfl (u8 rfl s17_42)) (u4 rfl (u8 rfl s18_42)) up_h ?_; intro e_50 s2_50 s8_50 s9_50 s10_50 s14_50 s15_50 s16_50 s17_50 s18_50 s113_50
                  refine then_n <| aw_case s113_50 (fun hq_51 => ?_) (fun hq_51 => ?_)
                  ·replace hq_51 := bt hq_51
                   (have hl2 := a2.less k1 k2 (.inr (by omega)))
                   refine aw_skip <| then_n <| aw_block <| aw_seq <| at_ <| ar (ro_move s18_50) rfl ?_
                   (refine ar (ro_subU up_h ev_c ?_) rfl ?_; · ((first | unfold In64 | unfold InU64); omega))
                   refine ar (ro_assign up_h) rfl <| ae9 (up_m rfl (u2 rfl s2_50)) (up_m rfl (u2 rfl s8_50)) (up_m rfl (u2 rfl s9_50)) (up_m rfl (u2 rfl s10_50)) (up_m rfl (u2 rfl s14_50)) (up_m rfl (u2 rfl s15_50)) (up_m rfl (u2 rfl s16_50)) (up_m rfl (u2 rfl s17_50)) up_h ?_; intro e_52 s2_52 s8_52 s9_52 s10_52 s14_52 s15_52 s16_52 s17_52 s18_52
                   refine then_n <| aw_seq <| at_ <| ar (ro_move s16_52) rfl <| ar (ro_move (up_m rfl s9_52)) rfl ?_
                   (refine ar (ro_addU (up_m rfl up_h) up_h ?_) rfl ?_; · ((first | unfold In64 | unfold InU64); omega))
                   refine ar (ro_assign up_h) rfl <| ae9 (u4 rfl s2_52) (u4 rfl s8_52) (u4 rfl s9_52) (u4 rfl s10_52) (u4 rfl s14_52) (u4 rfl s15_52) up_h (u4 rfl s17_52) (u4 rfl s18_52) ?_; intro e_53 s2_53 s8_53 s9_53 s10_53 s14_53 s15_53 s16_53 s17_53 s18_53
                   refine then_n <| aw_seq <| at_ <| ar (ro_move s16_53) rfl <| ar (ro_geq up_h ev_c) rfl <| ae10 (u2 rfl s2_53) (u2 rfl s8_53) (u2 rfl s9_53) (u2 rfl s10_53) (u2 rfl s14_53) (u2 rfl s15_53) (u2 rfl s16_53) (u2 rfl s17_53) (u2 rfl s18_53) up_h ?_; intro e_54 s2_54 s8_54 s9_54 s10_54 s14_54 s15_54 s16_54 s17_54 s18_54 s120_54
                   refine then_n <| aw_case s120_54 (fun hq_55 => ?_) (fun hq_55 => ?_)
                   ·replace hq_55 := bt hq_55
                    (have hq2 : x - 1 = dq0 Y u v := a2.far (r := z + Y / 4294967296) (by omega) (by omega) (by omega) (by omega))
                    refine aw_exit <| block_miss rfl <| then_x <| block_hit <| then_n ⟨(s18_54).trans (by exact avu hq2), (s2_54).trans (s2_40).symm, (s8_54).trans (s8_40).symm, (s14_54).trans (s14_40).symm, (s15_54).trans (s15_40).symm, (s17_54).trans (s17_40).symm, ml_42⟩
                   replace hq_55 := bf hq_55
                   refine aw_skip <| block_n <| then_n <| ⟨⟨_, _⟩, ⟨s18_54, s16_54, (s2_54.trans s2_40.symm), (s8_54.trans s8_40.symm), (s9_54.trans s9_40.symm), (s10_54.trans s10_40.symm), (s14_54.trans s14_40.symm), (s15_54.trans s15_40.symm), (s17_54.trans s17_40.symm), ml_42, ?_⟩, ?_⟩
                   · (exact ⟨by omega, by omega, by omega, by omega, by omega⟩)
                   · ((try dsimp only); omega)
                  replace hq_51 := bf hq_51
                  (have hq2 : x = dq0 Y u v := a2.done k1 k2 (by omega))
                  refine aw_exit <| then_x <| then_x <| block_hit <| then_n ⟨(s18_50).trans (by exact avu hq2), (s2_50).trans (s2_40).symm, (s8_50).trans (s8_40).symm, (s14_50).trans (s14_40).symm, (s15_50).trans (s15_40).symm, (s17_50).trans (s17_40).symm, ml_42⟩
              · rintro e_41 m_41 ⟨s18_41, k2_41, k8_41, k14_41, k15_41, k17_41, ml_41⟩
                have s2_41 := k2_41.trans s2_40
                have s8_41 := k8_41.trans s8_40
                have s14_41 := k14_41.trans s14_40
                have s15_41 := k15_41.trans s15_40
                have s17_41 := k17_41.trans s17_40
                refine aw_seq <| at_ <| ar (ro_move s15_41) rfl ?_
                (refine ar (ro_mulU up_h ev_c ?_) rfl ?_; · ((first | unfold In64 | unfold InU64); omega))
                refine ar (ro_move (u2 rfl s18_41)) rfl ?_
                (refine ar (ro_addU (up_m rfl up_h) up_h ?_) rfl ?_; · ((first | unfold In64 | unfold InU64); omega))
                refine ar (ro_move (u4 rfl s17_41)) rfl <| ar (ro_mul up_h ev_c) rfl <| ar (ro_move (u2 rfl (u4 rfl s14_41))) rfl <| ar (ro_add (up_m rfl up_h) up_h) rfl <| ar (ro_move (u8 rfl s18_41)) rfl <| ar (ro_move (up_m rfl (u8 rfl s2_41))) rfl <| ar (ro_mul (up_m rfl up_h) up_h) rfl <| ar (ro_sub (up_m rfl (u2 rfl up_h)) up_h) rfl <| ar (ro_move (u4 rfl (u8 rfl s8_41))) rfl <| ar (ro_shr (up_m rfl up_h) up_h (by omega) rfl) rfl ?_
                refine ar (ro_assign (u2 rfl (u8 rfl up_h))) rfl <| ar (ro_assign (up_m rfl up_h)) rfl <| ae2 (up_m rfl up_h) up_h ?_; clear s14_41 s15_41 s17_41 s18_41 s2_41 s8_41; intro e_56 s6_56 s7_56
                refine then_n <| aw_ret <| ret2 (.inr rfl) (by kernel_rfl) (resV_tmp s6_56) (resV_tmp s7_56) (.ro _ rfl) (.ro _ rfl) ?_
                clear s6_56 s7_56  ml_41
                (refine tup2 ?_ ?_; (first | rfl | (simp only [wrapU_eq]; omega)); rw [shp (by omega), h.hp]; refine congrArg (· / p) ?_; simp only [wrapU_eq]; unfold dR at hR ⊢; omega)
end Go.Proofs.Ytonjcljnpcmenaa

/- Contracts of chapter 1: the limit at a joint where a product is one word; vehicles, poses. No conditions on a program. -/
namespace Go.Proofs.Ytonjcljnpcmenaa
open Go Go.RowKit Go.Proofs
set_option linter.unusedSimpArgs false
set_option linter.unusedVariables false
theorem y22_sl23 : SlIs Try.prog 23 87 2 16 (.agg #[.int .i64 0, .int .i64 0]) := ⟨by kernel_rfl, by kernel_rfl, by kernel_rfl⟩
theorem y22_ty23 : TyIs Try.prog 23 false 1 := ⟨by kernel_rfl, by kernel_rfl⟩
theorem y22_ty3 : TyIs Try.prog 3 false 1 := ⟨by kernel_rfl, by kernel_rfl⟩
theorem y22_ty87 : TyIs Try.prog 87 true 2 := ⟨by kernel_rfl, by kernel_rfl⟩

theorem mul64_low (x y : Int) (hx : InU64 x) (hy : InU64 y) (h : InU64 (x * y)) : FnOk Try.prog 138 [uA x, uA y] (fun q => q = .tuple [uA 0, uA (x * y)]) :=
  (mul64_ok x y hx hy).mono fun q hq => by
    unfold InU64 at h
    rw [hq, show x * y / 18446744073709551616 = 0 by omega, show x * y % 18446744073709551616 = x * y by omega]
def sgnV (n : Int) : Int := if n < 0 then -1 else if 0 < n then 1 else 0
/-- What side and cant hold. -/
def helV (l : Lin) (s : Int) (j : Nat) : Int := 2000 * s + sgnV (benN l j) * ((l.bs.getD (j - 1) default).cant + (l.bs.getD j default).cant) * 9810
/-- The limit at a joint. -/
def limU (l : Lin) (s : Int) (j : Nat) : Int := helV l s j * ((l.bs.getD (j - 1) default).len + (l.bs.getD j default).len) * benD l j
def limV (l : Lin) (s : Int) (j : Nat) : Int := if benN l j = 0 then 20000000000 else if helV l s j < 0 then 0 else min (limU l s j / (2 * 2000 * max (benN l j) (-benN l j))) 20000000000
theorem ben_bd {l : Lin} (h : Rgt l) {j : Nat} (hj : 1 ≤ j ∧ j + 2 ≤ l.js.length) : (benN l j).natAbs ≤ 2400000000 ∧ 1000000 ≤ benD l j ∧ benD l j ≤ 900000000 := by
  have hjs := h.js
  have j1 := h.jnt (j - 1) (by omega)
  have j2 := h.jnt j (by omega)
  have j3 := h.jnt (j + 1) (by omega)
  have b1 := h.bea (j - 1) (by omega)
  have b2 := h.bea j (by omega)
  have m1 := mul_in (x := (l.js.getD (j + 1) default).acr - (l.js.getD j default).acr) (y := (l.bs.getD (j - 1) default).len) 40000 30000 (by omega) (by omega)
  have m2 := mul_in (x := (l.js.getD j default).acr - (l.js.getD (j - 1) default).acr) (y := (l.bs.getD j default).len) 40000 30000 (by omega) (by omega)
  have m3 := mul_in (x := (l.bs.getD (j - 1) default).len) (y := (l.bs.getD j default).len) 30000 30000 (by omega) (by omega)
  have m4 : (1000 : Int) * 1000 ≤ (l.bs.getD (j - 1) default).len * (l.bs.getD j default).len := Int.mul_le_mul b1.1 b2.1 (by omega) (by omega)
  unfold benN benD
  omega
theorem hel_bd {l : Lin} (h : Rgt l) {j : Nat} (hj : 1 ≤ j ∧ j + 2 ≤ l.js.length) {s : Int} (hs : 0 ≤ s ∧ s ≤ 5000) : (sgnV (benN l j) * ((l.bs.getD (j - 1) default).cant + (l.bs.getD j default).cant)).natAbs ≤ 600 ∧ (helV l s j).natAbs ≤ 15886000 := by
  have hjs := h.js
  have b1 := h.bea (j - 1) (by omega)
  have b2 := h.bea j (by omega)
  have m1 := mul_in (x := sgnV (benN l j)) (y := (l.bs.getD (j - 1) default).cant + (l.bs.getD j default).cant) 1 600 (by unfold sgnV; split; decide; split <;> decide) (by omega)
  unfold helV
  omega
set_option maxRecDepth 100000 in
set_option maxHeartbeats 4000000 in
theorem limit_low (l : Lin) (h : Rgt l) (s : Int) (hs : 0 ≤ s ∧ s ≤ 5000) (j : Nat) (hj : 1 ≤ j ∧ j + 2 ≤ l.js.length) (hu : limU l s j < 18446744073709551616) : FnOk Try.prog 85 [tkA l, mA s, mA j] (fun q => q = mA (limV l s j)) := by
  refine fnOk_of (fn := Try.f85) 88 (by kernel_rfl) rfl (by kernel_rfl) (Nat.le_of_ble_eq_true rfl) ?_
  intro e_0 m_0 hA hm_0
  have s0_0 : evA e_0 (.tmp 0) = _ := hA 0 _ rfl
  have s1_0 : evA e_0 (.tmp 1) = _ := hA 1 _ rfl
  have s2_0 : evA e_0 (.tmp 2) = _ := hA 2 _ rfl
  have ml_0 : m_0.length = 0 := by rw [hm_0]; rfl
  clear hA hm_0
  have hn1 := h.n1; have hn0 := h.n0; have hjs := h.js; have b1 := h.bea (j - 1) (by omega); have b2 := h.bea j (by omega); obtain ⟨e1, e2, e3⟩ := ben_bd h hj; obtain ⟨e4, e5⟩ := hel_bd h hj hs
  refine aw_seq <| at_ <| ar (ro_assign ev_c) rfl <| ae3 (up_m rfl s0_0) (up_m rfl s1_0) (up_m rfl s2_0) ?_; clear s0_0 s1_0 s2_0; intro e_1 s0_1 s1_1 s2_1
  refine then_n <| aw_seq <| at_ <| ar (ro_move s0_1) rfl <| ar (ro_move (up_m rfl s2_1)) rfl <| ar (ro_call (evL_cons (up_m rfl up_h) (evL_cons up_h evL_nil)) rfl (bend_ok l h j hj) qhcf104) rfl <| ar (ro_move up_h) rfl <| ar (ro_extract up_h rfl) rfl <| ar (ro_extract (up_m rfl up_h) rfl) rfl <| ar (ro_assign (up_m rfl up_h)) rfl <| ar (ro_assign (up_m rfl up_h)) rfl <| ae5 (u8 rfl s0_1) (u8 rfl s1_1) (u8 rfl s2_1) (up_m rfl up_h) up_h ?_; clear s0_1 s1_1 s2_1; intro e_2 s0_2 s1_2 s2_2 s7_2 s8_2
  refine then_n <| aw_seq <| aw_seq <| at_ <| ar (ro_move s7_2) rfl <| ar (ro_eql up_h ev_c) rfl ?_
  refine ae6 (u2 rfl s0_2) (u2 rfl s1_2) (u2 rfl s2_2) (u2 rfl s7_2) (u2 rfl s8_2) up_h ?_; clear s0_2 s1_2 s2_2 s7_2 s8_2; intro e_3 s0_3 s1_3 s2_3 s7_3 s8_3 s24_3
  refine then_n <| aw_case s24_3 (fun hq_4 => ?_) (fun hq_4 => ?_)
  ·replace hq_4 := bt hq_4
   refine aw_seq <| at_ <| ar (ro_assign ev_c) rfl <| ae1 up_h ?_; clear s0_3 s1_3 s24_3 s2_3 s7_3 s8_3; intro e_5 s6_5
   refine then_n <| aw_ret <| then_r <| ret1 (.inr rfl) (by kernel_rfl) (resV_tmp s6_5) (.ro _ rfl) ?_
   clear s6_5  ml_0
   (rw [limV, if_pos (by assumption)])
  replace hq_4 := bf hq_4
  refine aw_skip <| then_n <| aw_seq <| aw_drawK 20 2 ml_0 (by kernel_rfl) (by kernel_rfl) (by kernel_rfl) (by kernel_rfl) (fun m_6 hm_6 => ?_)
  have mo0_6 : m_6[0]? = _ := m_room_g hm_6 ml_0 0 rfl rfl
  have mo1_6 : m_6[1]? = _ := m_room_g hm_6 ml_0 1 rfl rfl
  have ml_6 : _ = 2 := m_room_l (K := 2) hm_6 ml_0
  clear hm_6 ml_0
  refine dh_ro (fun M_ hM_ => (ro_move s0_3)) trivial ?_
  refine dh_ro (fun M_ hM_ => (ro_nilR up_h)) trivial ?_
  refine dh_ro (fun M_ hM_ => (ro_eq (ro_fld_ref qfl141_0 rfl up_h) (by simp only [pS, Value.cells, Nat.reduceAdd, jnE, beE, Int.toNat_natCast, toNat_suc, toNat_pre] <;> rfl))) trivial ?_
  refine dh_ro (fun M_ hM_ => (ro_eq (ro_fld_ref qfl26_2 rfl up_h) (by simp only [pS, Value.cells, Nat.reduceAdd, jnE, beE, Int.toNat_natCast, toNat_suc, toNat_pre] <;> rfl))) trivial ?_
  refine dh_ro (fun M_ hM_ => (ro_eq (ro_ld_ref y22_ty23 rfl up_h (nle rfl)) (by simp only [pS, Value.cells, Nat.reduceAdd, jnE, beE, Int.toNat_natCast, toNat_suc, toNat_pre] <;> rfl))) trivial ?_
  refine dh_ro (fun M_ hM_ => (ro_move (up_m rfl (u4 rfl s2_3)))) trivial ?_
  (refine dh_ro (fun M_ hM_ => (ro_sub' up_h ev_c ?_)) trivial ?_; · ((first | unfold In64 | unfold InU64); omega))
  refine dh_ro (fun M_ hM_ => (ro_eq (ro_ix y22_sl23 (u2 rfl up_h) up_h (by omega) (by first | (refine idx_map ?_; first | omega | (simp only [lnS]; omega)) | (refine idx_mapI ?_; first | omega | (simp only [lnS]; omega)) | (refine idx_mapN ?_; first | omega | (simp only [lnS]; omega)) | rfl)) (by simp only [pS, Value.cells, Nat.reduceAdd, jnE, beE, Int.toNat_natCast, toNat_suc, toNat_pre] <;> rfl))) trivial ?_
  refine dh_ro (fun M_ hM_ => (ro_eq (ro_ld_ref y22_ty87 rfl up_h (nle rfl)) (by simp only [pS, Value.cells, Nat.reduceAdd, jnE, beE, Int.toNat_natCast, toNat_suc, toNat_pre] <;> rfl))) trivial ?_
  refine dh_ro (fun M_ hM_ => (ro_move (up_m rfl (u8 rfl s0_3)))) trivial ?_
  refine dh_ro (fun M_ hM_ => (ro_nilR up_h)) trivial ?_
  refine dh_ro (fun M_ hM_ => (ro_eq (ro_fld_ref qfl141_0 rfl up_h) (by simp only [pS, Value.cells, Nat.reduceAdd, jnE, beE, Int.toNat_natCast, toNat_suc, toNat_pre] <;> rfl))) trivial ?_
  refine dh_ro (fun M_ hM_ => (ro_eq (ro_fld_ref qfl26_2 rfl up_h) (by simp only [pS, Value.cells, Nat.reduceAdd, jnE, beE, Int.toNat_natCast, toNat_suc, toNat_pre] <;> rfl))) trivial ?_
  refine dh_ro (fun M_ hM_ => (ro_eq (ro_ld_ref y22_ty23 rfl up_h (nle rfl)) (by simp only [pS, Value.cells, Nat.reduceAdd, jnE, beE, Int.toNat_natCast, toNat_suc, toNat_pre] <;> rfl))) trivial ?_
  refine dh_ro (fun M_ hM_ => (ro_move (u2 rfl (u4 rfl (u8 rfl s2_3))))) trivial ?_
  refine dh_ro (fun M_ hM_ => (ro_eq (ro_ix y22_sl23 (up_m rfl up_h) up_h (by omega) (by first | (refine idx_map ?_; first | omega | (simp only [lnS]; omega)) | (refine idx_mapI ?_; first | omega | (simp only [lnS]; omega)) | (refine idx_mapN ?_; first | omega | (simp only [lnS]; omega)) | rfl)) (by simp only [pS, Value.cells, Nat.reduceAdd, jnE, beE, Int.toNat_natCast, toNat_suc, toNat_pre] <;> rfl))) trivial ?_
  refine dh_ro (fun M_ hM_ => (ro_eq (ro_ld_ref y22_ty87 rfl up_h (nle rfl)) (by simp only [pS, Value.cells, Nat.reduceAdd, jnE, beE, Int.toNat_natCast, toNat_suc, toNat_pre] <;> rfl))) trivial ?_
  refine dh_nw (0) (fun M_ hM_ => (nw_alloc qaz87 rfl)) trivial mo0_6 rfl trivial trivial (fun m_7 hm_7 => ?_)
  have mo0_7 := m_set hm_7 mo0_6
  simp only [pS, Value.cells, Nat.reduceAdd, jnE, beE, Int.toNat_natCast, toNat_suc, toNat_pre] at mo0_7
  have mo1_7 := m_set_o hm_7 mo1_6 (by decide)
  have ml_7 := m_set_l hm_7 ml_6
  clear hm_7 mo0_6 mo1_6
  refine dh_nw (1) (fun M_ hM_ => (nw_alloc qaz87 rfl)) trivial mo1_7 rfl ⟨.inl (by simp <;> omega), trivial⟩ ⟨.inl (by simp <;> omega), trivial⟩ (fun m_8 hm_8 => ?_)
  have mo1_8 := m_set hm_8 mo1_7
  simp only [pS, Value.cells, Nat.reduceAdd, jnE, beE, Int.toNat_natCast, toNat_suc, toNat_pre] at mo1_8
  have mo0_8 := m_set_o hm_8 mo0_7 (by decide)
  have ml_8 := m_set_l hm_8 ml_7
  clear hm_8 mo0_7 mo1_7
  refine dh_set (0) (fun M_ hM_ => (se_store (up_m rfl up_h) (u2 rfl (u8 rfl up_h)) rfl rfl (agr hM_ mo0_8 (by simp)) qsz87 rfl (nle rfl))) trivial ⟨.inr (wt_one 19 17 (by kernel_rfl)), ⟨.inl (by simp <;> omega), trivial⟩⟩ ⟨.inr (wt_one 19 17 (by kernel_rfl)), ⟨.inl (by simp <;> omega), trivial⟩⟩ (fun m_9 hm_9 => ?_)
  have mo0_9 := m_set hm_9 mo0_8
  simp only [pS, Value.cells, Nat.reduceAdd, jnE, beE, Int.toNat_natCast, toNat_suc, toNat_pre] at mo0_9
  have mo1_9 := m_set_o hm_9 mo1_8 (by decide)
  have ml_9 := m_set_l hm_9 ml_8
  clear hm_9 mo1_8 mo0_8
  refine dh_nil rfl ?_
  refine al_stm (st_store (up_n up_h) (up_n (u2 rfl up_h)) rfl rfl mo1_9 qsz87 rfl (nle rfl)) trivial rfl (fun m_10 hm_10 => ?_)
  have mo1_10 := m_set hm_10 mo1_9
  simp only [pS, Value.cells, Nat.reduceAdd, jnE, beE, Int.toNat_natCast, toNat_suc, toNat_pre] at mo1_10
  have mo0_10 := m_set_o hm_10 mo0_9 (by decide)
  have ml_10 := m_set_l hm_10 ml_9
  clear hm_10 mo0_9 mo1_9
  refine ae5 (up_n (up_n (up_m rfl (u2 rfl (u16 rfl s1_3))))) (up_n (up_n (up_m rfl (u2 rfl (u16 rfl s7_3))))) (up_n (up_n (up_m rfl (u2 rfl (u16 rfl s8_3))))) (up_n (up_n (up_m rfl up_h))) (up_n (up_n up_h)) ?_; clear s0_3 s1_3 s24_3 s2_3 s7_3 s8_3; intro e_11 s1_11 s7_11 s8_11 s9_11 s10_11
  refine then_n <| aw_seq <| at_ <| ar (ro_assign ev_c) rfl <| ae6 (up_m rfl s1_11) (up_m rfl s7_11) (up_m rfl s8_11) (up_m rfl s9_11) (up_m rfl s10_11) up_h ?_; clear s10_11 s1_11 s7_11 s8_11 s9_11; intro e_12 s1_12 s7_12 s8_12 s9_12 s10_12 s11_12
  refine then_n <| aw_seq <| aw_draw 14 (by kernel_rfl) (by kernel_rfl) (by kernel_rfl) (by kernel_rfl) ?_
  refine dr (ro_move s11_12) rfl <| dr (ro_move (up_m rfl s1_12)) rfl ?_
  (refine dr (ro_mul' (up_m rfl up_h) up_h ?_) rfl ?_; · ((first | unfold In64 | unfold InU64); omega))
  refine dr (ro_move (up_m rfl (u2 rfl s7_12))) rfl <| dr (ro_call (evL_cons up_h (evL_cons ev_c evL_nil)) rfl ((compare_ok _ _).mono (fun q h => show q = mA (sgnV (benN l j)) from h)) qhcf137) rfl ?_
  refine dr (ro_fld_ptr qfl87_1 rfl (up_m rfl (u4 rfl s9_12))) rfl <| dr (ro_eq (ro_ld_ptr y22_ty3 rfl mo0_10 up_h (nle rfl)) (by simp only [pS, Value.cells, Nat.reduceAdd, jnE, beE, Int.toNat_natCast, toNat_suc, toNat_pre] <;> rfl)) rfl ?_
  refine dr (ro_fld_ptr qfl87_1 rfl (up_m rfl (u2 rfl (u4 rfl s10_12)))) rfl <| dr (ro_eq (ro_ld_ptr y22_ty3 rfl mo1_10 up_h (nle rfl)) (by simp only [pS, Value.cells, Nat.reduceAdd, jnE, beE, Int.toNat_natCast, toNat_suc, toNat_pre] <;> rfl)) rfl ?_
  (refine dr (ro_add' (u2 rfl up_h) up_h ?_) rfl ?_; · ((first | unfold In64 | unfold InU64); omega))
  (refine dr (ro_mul' (up_m rfl (u4 rfl up_h)) up_h ?_) rfl ?_; · ((first | unfold In64 | unfold InU64); omega))
  (refine dr (ro_mul' up_h ev_c ?_) rfl ?_; · ((first | unfold In64 | unfold InU64); omega))
  (refine dr (ro_add' (up_m rfl (u8 rfl up_h)) up_h ?_) rfl ?_; · ((first | unfold In64 | unfold InU64); omega))
  refine dr (ro_assign up_h) rfl <| ds_nil <| ae6 (u2 rfl (u4 rfl (u8 rfl s7_12))) (u2 rfl (u4 rfl (u8 rfl s8_12))) (u2 rfl (u4 rfl (u8 rfl s9_12))) (u2 rfl (u4 rfl (u8 rfl s10_12))) (u2 rfl (u4 rfl (u8 rfl s11_12))) up_h ?_; clear s10_12 s11_12 s1_12 s7_12 s8_12 s9_12; intro e_13 s7_13 s8_13 s9_13 s10_13 s11_13 s12_13
  refine then_n <| aw_seq <| aw_seq <| at_ <| ar (ro_move s12_13) rfl <| ar (ro_lss up_h ev_c) rfl <| ae7 (u2 rfl s7_13) (u2 rfl s8_13) (u2 rfl s9_13) (u2 rfl s10_13) (u2 rfl s11_13) (u2 rfl s12_13) up_h ?_; clear s10_13 s11_13 s12_13 s7_13 s8_13 s9_13; intro e_14 s7_14 s8_14 s9_14 s10_14 s11_14 s12_14 s56_14
  refine then_n <| aw_case s56_14 (fun hq_15 => ?_) (fun hq_15 => ?_)
  ·replace hq_15 := bt hq_15
   refine aw_seq <| at_ <| ar (ro_assign ev_c) rfl <| ae1 up_h ?_; clear s10_14 s11_14 s12_14 s56_14 s7_14 s8_14 s9_14; intro e_16 s6_16
   refine then_n <| aw_ret <| then_r <| ret1 (.inr rfl) (by kernel_rfl) (resV_tmp s6_16) (.ro _ rfl) ?_
   clear s6_16 mo1_10 mo0_10 ml_10
   (rw [limV, if_neg (by assumption), if_pos (by assumption)])
  replace hq_15 := bf hq_15
  (have hh : 0 ≤ (2000 * s + sgnV (benN l j) * ((l.bs.getD (j - 1) default).cant + (l.bs.getD j default).cant) * 9810) := (by omega); have m1 := mul_in (x := (2000 * s + sgnV (benN l j) * ((l.bs.getD (j - 1) default).cant + (l.bs.getD j default).cant) * 9810)) (y := ((l.bs.getD (j - 1) default).len + (l.bs.getD j default).len)) 15886000 60000 e5 (by omega); have n1 := Int.mul_nonneg hh (show 0 ≤ ((l.bs.getD (j - 1) default).len + (l.bs.getD j default).len) by omega); have vv1 : InU64 ((2000 * s + sgnV (benN l j) * ((l.bs.getD (j - 1) default).cant + (l.bs.getD j default).cant) * 9810) * ((l.bs.getD (j - 1) default).len + (l.bs.getD j default).len)) := ⟨n1, by omega⟩; have vv2 : InU64 (benD l j) := ⟨by omega, by omega⟩; have vv3 : InU64 ((2000 * s + sgnV (benN l j) * ((l.bs.getD (j - 1) default).cant + (l.bs.getD j default).cant) * 9810) * ((l.bs.getD (j - 1) default).len + (l.bs.getD j default).len) * benD l j) := ⟨Int.mul_nonneg n1 (by omega), hu⟩; have vv4 : InU64 (2 * 2000 * max (benN l j) (-benN l j)) := ⟨by omega, by omega⟩; have vv5 : 0 < 2 * 2000 * max (benN l j) (-benN l j) := (by omega); have vv6 := Int.ediv_nonneg vv3.1 (Int.le_of_lt vv5); unfold InU64 at vv1 vv2 vv4)
  refine aw_skip <| then_n <| aw_seq <| at_ <| ar (ro_move s12_14) rfl <| ar (ro_fld_ptr qfl87_0 rfl (up_m rfl s9_14)) rfl <| ar (ro_eq (ro_ld_ptr y22_ty3 rfl mo0_10 up_h (nle rfl)) (by simp only [pS, Value.cells, Nat.reduceAdd, jnE, beE, Int.toNat_natCast, toNat_suc, toNat_pre] <;> rfl)) rfl ?_
  refine ar (ro_fld_ptr qfl87_0 rfl (up_m rfl (u2 rfl s10_14))) rfl <| ar (ro_eq (ro_ld_ptr y22_ty3 rfl mo1_10 up_h (nle rfl)) (by simp only [pS, Value.cells, Nat.reduceAdd, jnE, beE, Int.toNat_natCast, toNat_suc, toNat_pre] <;> rfl)) rfl ?_
  (refine ar (ro_add' (u2 rfl up_h) up_h ?_) rfl ?_; · ((first | unfold In64 | unfold InU64); omega))
  (refine ar (ro_mul' (up_m rfl (u4 rfl up_h)) up_h ?_) rfl ?_; · ((first | unfold In64 | unfold InU64); omega))
  (refine ar (ro_cvU up_h (by kernel_rfl) (by kernel_rfl) ?_) rfl ?_; · ((first | unfold In64 | unfold InU64); omega))
  refine ar (ro_move (u8 rfl s8_14)) rfl ?_
  (refine ar (ro_cvU up_h (by kernel_rfl) (by kernel_rfl) ?_) rfl ?_; · ((first | unfold In64 | unfold InU64); omega))
  refine ar (ro_call (evL_cons (u2 rfl up_h) (evL_cons up_h evL_nil)) rfl (mul64_low _ _ vv1 vv2 vv3) qhcf138) rfl <| ar (ro_move up_h) rfl <| ar (ro_extract up_h rfl) rfl <| ar (ro_extract (up_m rfl up_h) rfl) rfl <| ar (ro_assign (up_m rfl up_h)) rfl <| ar (ro_assign (up_m rfl up_h)) rfl <| ae4 (u16 rfl s7_14) (u16 rfl s11_14) (up_m rfl up_h) up_h ?_; clear s10_14 s11_14 s12_14 s56_14 s7_14 s8_14 s9_14; intro e_17 s7_17 s11_17 s13_17 s14_17
  refine then_n <| aw_seq <| at_ <| ar (ro_move s13_17) rfl <| ar (ro_move (up_m rfl s14_17)) rfl <| ar (ro_move (u2 rfl s11_17)) rfl ?_
  (refine ar (ro_mul' ev_c up_h ?_) rfl ?_; · ((first | unfold In64 | unfold InU64); omega))
  refine ar (ro_move (u4 rfl s7_17)) rfl <| ar (ro_move (up_m rfl (u4 rfl s7_17))) rfl ?_
  (refine ar (ro_neg' up_h ?_) rfl ?_; · ((first | unfold In64 | unfold InU64); omega))
  refine ar (ro_max (u2 rfl up_h) up_h) rfl ?_
  (refine ar (ro_mul' (u4 rfl up_h) up_h ?_) rfl ?_; · ((first | unfold In64 | unfold InU64); omega))
  (refine ar (ro_cvU up_h (by kernel_rfl) (by kernel_rfl) ?_) rfl ?_; · ((first | unfold In64 | unfold InU64); omega))
  refine ar (ro_call (evL_cons (up_m rfl (u8 rfl up_h)) (evL_cons (u8 rfl up_h) (evL_cons up_h evL_nil))) rfl (div64_low _ _ vv3 vv4 vv5) qhcf139) rfl <| ar (ro_move up_h) rfl <| ar (ro_extract up_h rfl) rfl <| ar (ro_extract (up_m rfl up_h) rfl) rfl <| ar (ro_assign (up_m rfl up_h)) rfl <| ar (ro_assign (up_m rfl up_h)) rfl <| ae1 (up_m rfl up_h) ?_; clear s11_17 s13_17 s14_17 s7_17; intro e_18 s15_18
  refine then_n <| aw_seq <| at_ <| ar (ro_move s15_18) rfl <| ar (ro_min up_h ev_c) rfl ?_
  (refine ar (ro_cvI up_h (by kernel_rfl) (by kernel_rfl) ?_) rfl ?_; · ((first | unfold In64 | unfold InU64); omega))
  refine ar (ro_assign up_h) rfl <| ae1 up_h ?_; clear s15_18; intro e_19 s6_19
  refine then_n <| aw_ret <| ret1 (.inr rfl) (by kernel_rfl) (resV_tmp s6_19) (.ro _ rfl) ?_
  clear s6_19 mo1_10 mo0_10 ml_10
  (rw [limV, if_neg (by assumption), if_neg (by assumption)]; rfl)
end Go.Proofs.Ytonjcljnpcmenaa

/- Contracts of chapter 1: the limit at a joint of any line; vehicles, poses opened. No conditions on a program. -/
namespace Go.Proofs.Ytonjcljnpcmenaa
open Go Go.RowKit Go.Proofs
set_option linter.unusedSimpArgs false
set_option linter.unusedVariables false
theorem firstE_0 (e : Int) : firstE [0, e] = e := by
  by_cases h : e = 0 <;> simp [firstE, h]
def sidE (s : Int) : Int := unlessE (withinB s 0 5000) 2
theorem sidE_z {s : Int} : sidE s = 0 ↔ 0 ≤ s ∧ s ≤ 5000 := by
  unfold sidE unlessE; rw [← withinB_iff]
  cases withinB s 0 5000 <;> simp
end Go.Proofs.Ytonjcljnpcmenaa

/- Contracts of chapter 1: the deviation at a joint beneath a pose. No conditions on a program. -/
namespace Go.Proofs.Ytonjcljnpcmenaa
open Go Go.RowKit Go.Proofs
set_option linter.unusedSimpArgs false
set_option linter.unusedVariables false


theorem fdivF {n k : Int} (hk : 1 ≤ k) : (n.tmod k < 0 → n.tdiv k - 1 = n / k) ∧ (¬ n.tmod k < 0 → n.tdiv k = n / k) := by
  have h1 := Int.mul_tdiv_add_tmod n k
  have h2 : n.tmod k < k := Int.tmod_lt_of_pos n (by omega)
  have h3 : -k < n.tmod k := Int.lt_tmod_of_pos n (by omega)
  constructor
  · intro h
    have := (Int.ediv_emod_unique (a := n) (b := k) (r := n.tmod k + k) (q := n.tdiv k - 1) (by omega)).2 ⟨by rw [Int.mul_sub]; omega, by omega, by omega⟩
    exact this.1.symm
  · intro h
    have := (Int.ediv_emod_unique (a := n) (b := k) (r := n.tmod k) (q := n.tdiv k) (by omega)).2 ⟨by omega, by omega, h2⟩
    exact this.1.symm
/-- The product of three lengths. -/
def devD (l : Lin) (L p : Int) : Int := (l.bs.getD (atI l p) default).len * (l.bs.getD (atI l (p + L)) default).len * L
/-- A pose that is right, and a joint beneath it. -/
structure Pos (l : Lin) (L p : Int) (j : Nat) : Prop where
  L0 : 1000 ≤ L
  L1 : L ≤ 30000
  p0 : 0 ≤ p
  p1 : p + L ≤ plaP l.bs l.bs.length
  j0 : p ≤ plaP l.bs j
  j1 : plaP l.bs j ≤ p + L
  jn : j < l.js.length
theorem Pos.bd {l : Lin} (h : Rgt l) {L p : Int} {j : Nat} (q : Pos l L p j) : 1 ≤ devD l L p ∧ devD l L p ≤ 27000000000000 ∧ ((L - (plaP l.bs j - p)) * ((l.bs.getD (atI l p) default).len - atD l p) * (l.bs.getD (atI l (p + L)) default).len).natAbs ≤ 27000000000000 ∧
    ((L - (plaP l.bs j - p)) * atD l p * (l.bs.getD (atI l (p + L)) default).len).natAbs ≤ 27000000000000 ∧ ((plaP l.bs j - p) * ((l.bs.getD (atI l (p + L)) default).len - atD l (p + L)) * (l.bs.getD (atI l p) default).len).natAbs ≤ 27000000000000 ∧ ((plaP l.bs j - p) * atD l (p + L) * (l.bs.getD (atI l p) default).len).natAbs ≤ 27000000000000 := by
  obtain ⟨L0, L1, p0, p1, j0, j1, jn⟩ := q
  obtain ⟨a1, a2, a3⟩ := at_bd h (p := p) ⟨p0, by omega⟩
  obtain ⟨b1, b2, b3⟩ := at_bd h (p := p + L) ⟨by omega, p1⟩
  have c1 := h.bea _ a1
  have c2 := h.bea _ b1
  have t : ∀ {x y z : Int}, x.natAbs ≤ 30000 → y.natAbs ≤ 30000 → z.natAbs ≤ 30000 → (x * y * z).natAbs ≤ 27000000000000 := fun h1 h2 h3 => mul_in (30000 * 30000) 30000 (mul_in 30000 30000 h1 h2) h3
  have d0 := t (x := (l.bs.getD (atI l p) default).len) (y := (l.bs.getD (atI l (p + L)) default).len) (z := L) (by omega) (by omega) (by omega)
  have d1 : 0 < devD l L p := Int.mul_pos (Int.mul_pos (by omega) (by omega)) (by omega)
  refine ⟨by omega, by unfold devD at d1 ⊢; omega, t (by omega) (by omega) (by omega), t (by omega) (by omega) (by omega), t (by omega) (by omega) (by omega), t (by omega) (by omega) (by omega)⟩
end Go.Proofs.Ytonjcljnpcmenaa

/- Contracts of chapter 1: the deviation at a joint beneath a pose, the walk. No conditions on a program. -/
namespace Go.Proofs.Ytonjcljnpcmenaa
open Go Go.RowKit Go.Proofs
set_option linter.unusedSimpArgs false
set_option linter.unusedVariables false
end Go.Proofs.Ytonjcljnpcmenaa

/- Contracts of chapter 1: the joints beneath a pose; the deviation at one. No conditions on a program. -/
namespace Go.Proofs.Ytonjcljnpcmenaa
open Go Go.RowKit Go.Proofs
set_option linter.unusedSimpArgs false
set_option linter.unusedVariables false
/-- A joint beneath a pose. -/
def benB (l : Lin) (L p : Int) (i : Nat) : Bool := decide (p < plaP l.bs i) && decide (plaP l.bs i < p + L)
def benL (l : Lin) (L p : Int) : List Nat := (List.range l.js.length).filter (benB l L p)
/-- A joint is none of the first ones beneath. -/
def Non (l : Lin) (L p j : Int) (i : Nat) : Prop := ∀ k : Nat, k < i → ∀ n : Nat, (benL l L p)[k]? = some n → (n : Int) ≠ j
theorem Non.step {l : Lin} {L p j : Int} {i n : Nat} (h : Non l L p j i) (hn : (benL l L p)[i]? = some n) (hne : ¬ (n : Int) = j) : Non l L p j (i + 1) := fun k hk m hm => by
  by_cases hki : k = i
  · subst hki; rw [hn] at hm; cases hm; exact hne
  · exact h k (by omega) m hm
end Go.Proofs.Ytonjcljnpcmenaa

/- Contracts of chapter 1: whether the program is awake. No conditions on a program. -/
namespace Go.Proofs.Ytonjcljnpcmenaa
open Go Go.RowKit Go.Proofs
set_option linter.unusedSimpArgs false
set_option linter.unusedVariables false
end Go.Proofs.Ytonjcljnpcmenaa

/- Contracts of chapter 1: the limit at a joint, all limits. No conditions on a program. -/
namespace Go.Proofs.Ytonjcljnpcmenaa
open Go Go.RowKit Go.Proofs
set_option linter.unusedSimpArgs false
set_option linter.unusedVariables false
theorem y47_hcf83 : ∀ args w, (callFunc 83 args).run Try.prog w = .ok (.enter 83 args) w := fun _ _ => by kernel_rfl
theorem y47_hcf85 : ∀ args w, (callFunc 85 args).run Try.prog w = .ok (.enter 85 args) w := fun _ _ => by kernel_rfl
theorem y47_sl185 : SlIs Try.prog 185 34 1 8 (.int .i64 0) := ⟨by kernel_rfl, by kernel_rfl, by kernel_rfl⟩
theorem y47_sl22 : SlIs Try.prog 22 70 4 32 (.agg #[.int .i64 0, .int .i64 0, .int .i64 0, .int .i64 0]) := ⟨by kernel_rfl, by kernel_rfl, by kernel_rfl⟩
theorem y47_sl23 : SlIs Try.prog 23 87 2 16 (.agg #[.int .i64 0, .int .i64 0]) := ⟨by kernel_rfl, by kernel_rfl, by kernel_rfl⟩
theorem y47_sl49 : SlIs Try.prog 49 3 1 8 (.int .i64 0) := ⟨by kernel_rfl, by kernel_rfl, by kernel_rfl⟩
theorem y47_ty22 : TyIs Try.prog 22 false 1 := ⟨by kernel_rfl, by kernel_rfl⟩
theorem y47_ty23 : TyIs Try.prog 23 false 1 := ⟨by kernel_rfl, by kernel_rfl⟩
theorem y47_ty26 : TyIs Try.prog 26 true 4 := ⟨by kernel_rfl, by kernel_rfl⟩
theorem y47_ty3 : TyIs Try.prog 3 false 1 := ⟨by kernel_rfl, by kernel_rfl⟩
theorem y47_ty87 : TyIs Try.prog 87 true 2 := ⟨by kernel_rfl, by kernel_rfl⟩

set_option maxRecDepth 100000 in
set_option maxHeartbeats 4000000 in
theorem div64_ok (hi lo y : Int) (hlo : InU64 lo) (hh : 1 ≤ hi ∧ hi < y) (hy : y < 4611686018427387904) : FnOk Try.prog 139 [uA hi, uA lo, uA y] (fun q => q = .tuple [uA ((hi * 18446744073709551616 + lo) / y), uA ((hi * 18446744073709551616 + lo) % y)]) := by
  obtain ⟨s, p, q2, Y, u, v, h⟩ := dv_of hlo hh hy
  obtain ⟨e1, e2, _⟩ := h.all
  rw [← e1, ← e2]
  exact div64_walk hi lo y s p q2 Y u v h
set_option maxRecDepth 100000 in
set_option maxHeartbeats 4000000 in
theorem limit_high (l : Lin) (h : Rgt l) (s : Int) (hs : 0 ≤ s ∧ s ≤ 5000) (j : Nat) (hj : 1 ≤ j ∧ j + 2 ≤ l.js.length) (hu : 18446744073709551616 ≤ limU l s j) : FnOk Try.prog 85 [tkA l, mA s, mA j] (fun q => q = mA (limV l s j)) := by
  refine fnOk_of (fn := Try.f85) 88 (by kernel_rfl) rfl (by kernel_rfl) (Nat.le_of_ble_eq_true rfl) ?_
  intro e_0 m_0 hA hm_0
  have s0_0 : evA e_0 (.tmp 0) = _ := hA 0 _ rfl
  have s1_0 : evA e_0 (.tmp 1) = _ := hA 1 _ rfl
  have s2_0 : evA e_0 (.tmp 2) = _ := hA 2 _ rfl
  have ml_0 : m_0.length = 0 := by rw [hm_0]; rfl
  clear hA hm_0
  have hn1 := h.n1; have hn0 := h.n0; have hjs := h.js; have b1 := h.bea (j - 1) (by omega); have b2 := h.bea j (by omega); obtain ⟨e1, e2, e3⟩ := ben_bd h hj; obtain ⟨e4, e5⟩ := hel_bd h hj hs
  refine aw_seq <| at_ <| ar (ro_assign ev_c) rfl <| ae3 (up_m rfl s0_0) (up_m rfl s1_0) (up_m rfl s2_0) ?_; clear s0_0 s1_0 s2_0; intro e_1 s0_1 s1_1 s2_1
  refine then_n <| aw_seq <| at_ <| ar (ro_move s0_1) rfl <| ar (ro_move (up_m rfl s2_1)) rfl <| ar (ro_call (evL_cons (up_m rfl up_h) (evL_cons up_h evL_nil)) rfl (bend_ok l h j hj) qhcf104) rfl <| ar (ro_move up_h) rfl <| ar (ro_extract up_h rfl) rfl <| ar (ro_extract (up_m rfl up_h) rfl) rfl <| ar (ro_assign (up_m rfl up_h)) rfl <| ar (ro_assign (up_m rfl up_h)) rfl <| ae5 (u8 rfl s0_1) (u8 rfl s1_1) (u8 rfl s2_1) (up_m rfl up_h) up_h ?_; clear s0_1 s1_1 s2_1; intro e_2 s0_2 s1_2 s2_2 s7_2 s8_2
  refine then_n <| aw_seq <| aw_seq <| at_ <| ar (ro_move s7_2) rfl <| ar (ro_eql up_h ev_c) rfl ?_
  refine ae6 (u2 rfl s0_2) (u2 rfl s1_2) (u2 rfl s2_2) (u2 rfl s7_2) (u2 rfl s8_2) up_h ?_; clear s0_2 s1_2 s2_2 s7_2 s8_2; intro e_3 s0_3 s1_3 s2_3 s7_3 s8_3 s24_3
  refine then_n <| aw_case s24_3 (fun hq_4 => ?_) (fun hq_4 => ?_)
  ·replace hq_4 := bt hq_4
   refine aw_seq <| at_ <| ar (ro_assign ev_c) rfl <| ae1 up_h ?_; clear s0_3 s1_3 s24_3 s2_3 s7_3 s8_3; intro e_5 s6_5
   refine then_n <| aw_ret <| then_r <| ret1 (.inr rfl) (by kernel_rfl) (resV_tmp s6_5) (.ro _ rfl) ?_
   clear s6_5  ml_0
   (rw [limV, if_pos (by assumption)])
  replace hq_4 := bf hq_4
  refine aw_skip <| then_n <| aw_seq <| aw_drawK 20 2 ml_0 (by kernel_rfl) (by kernel_rfl) (by kernel_rfl) (by kernel_rfl) (fun m_6 hm_6 => ?_)
  have mo0_6 : m_6[0]? = _ := m_room_g hm_6 ml_0 0 rfl rfl
  have mo1_6 : m_6[1]? = _ := m_room_g hm_6 ml_0 1 rfl rfl
  have ml_6 : _ = 2 := m_room_l (K := 2) hm_6 ml_0
  clear hm_6 ml_0
  refine dh_ro (fun M_ hM_ => (ro_move s0_3)) trivial ?_
  refine dh_ro (fun M_ hM_ => (ro_nilR up_h)) trivial ?_
  refine dh_ro (fun M_ hM_ => (ro_eq (ro_fld_ref qfl141_0 rfl up_h) (by simp only [pS, Value.cells, Nat.reduceAdd, jnE, beE, Int.toNat_natCast, toNat_suc, toNat_pre] <;> rfl))) trivial ?_
  refine dh_ro (fun M_ hM_ => (ro_eq (ro_fld_ref qfl26_2 rfl up_h) (by simp only [pS, Value.cells, Nat.reduceAdd, jnE, beE, Int.toNat_natCast, toNat_suc, toNat_pre] <;> rfl))) trivial ?_
  refine dh_ro (fun M_ hM_ => (ro_eq (ro_ld_ref y47_ty23 rfl up_h (nle rfl)) (by simp only [pS, Value.cells, Nat.reduceAdd, jnE, beE, Int.toNat_natCast, toNat_suc, toNat_pre] <;> rfl))) trivial ?_
  refine dh_ro (fun M_ hM_ => (ro_move (up_m rfl (u4 rfl s2_3)))) trivial ?_
  (refine dh_ro (fun M_ hM_ => (ro_sub' up_h ev_c ?_)) trivial ?_; · ((first | unfold In64 | unfold InU64); omega))
  refine dh_ro (fun M_ hM_ => (ro_eq (ro_ix y47_sl23 (u2 rfl up_h) up_h (by omega) (by first | (refine idx_map ?_; first | omega | (simp only [lnS]; omega)) | (refine idx_mapI ?_; first | omega | (simp only [lnS]; omega)) | (refine idx_mapN ?_; first | omega | (simp only [lnS]; omega)) | rfl)) (by simp only [pS, Value.cells, Nat.reduceAdd, jnE, beE, Int.toNat_natCast, toNat_suc, toNat_pre] <;> rfl))) trivial ?_
  refine dh_ro (fun M_ hM_ => (ro_eq (ro_ld_ref y47_ty87 rfl up_h (nle rfl)) (by simp only [pS, Value.cells, Nat.reduceAdd, jnE, beE, Int.toNat_natCast, toNat_suc, toNat_pre] <;> rfl))) trivial ?_
  refine dh_ro (fun M_ hM_ => (ro_move (up_m rfl (u8 rfl s0_3)))) trivial ?_
  refine dh_ro (fun M_ hM_ => (ro_nilR up_h)) trivial ?_
  refine dh_ro (fun M_ hM_ => (ro_eq (ro_fld_ref qfl141_0 rfl up_h) (by simp only [pS, Value.cells, Nat.reduceAdd, jnE, beE, Int.toNat_natCast, toNat_suc, toNat_pre] <;> rfl))) trivial ?_
  refine dh_ro (fun M_ hM_ => (ro_eq (ro_fld_ref qfl26_2 rfl up_h) (by simp only [pS, Value.cells, Nat.reduceAdd, jnE, beE, Int.toNat_natCast, toNat_suc, toNat_pre] <;> rfl))) trivial ?_
  refine dh_ro (fun M_ hM_ => (ro_eq (ro_ld_ref y47_ty23 rfl up_h (nle rfl)) (by simp only [pS, Value.cells, Nat.reduceAdd, jnE, beE, Int.toNat_natCast, toNat_suc, toNat_pre] <;> rfl))) trivial ?_
  refine dh_ro (fun M_ hM_ => (ro_move (u2 rfl (u4 rfl (u8 rfl s2_3))))) trivial ?_
  refine dh_ro (fun M_ hM_ => (ro_eq (ro_ix y47_sl23 (up_m rfl up_h) up_h (by omega) (by first | (refine idx_map ?_; first | omega | (simp only [lnS]; omega)) | (refine idx_mapI ?_; first | omega | (simp only [lnS]; omega)) | (refine idx_mapN ?_; first | omega | (simp only [lnS]; omega)) | rfl)) (by simp only [pS, Value.cells, Nat.reduceAdd, jnE, beE, Int.toNat_natCast, toNat_suc, toNat_pre] <;> rfl))) trivial ?_
  refine dh_ro (fun M_ hM_ => (ro_eq (ro_ld_ref y47_ty87 rfl up_h (nle rfl)) (by simp only [pS, Value.cells, Nat.reduceAdd, jnE, beE, Int.toNat_natCast, toNat_suc, toNat_pre] <;> rfl))) trivial ?_
  refine dh_nw (0) (fun M_ hM_ => (nw_alloc qaz87 rfl)) trivial mo0_6 rfl trivial trivial (fun m_7 hm_7 => ?_)
  have mo0_7 := m_set hm_7 mo0_6
  simp only [pS, Value.cells, Nat.reduceAdd, jnE, beE, Int.toNat_natCast, toNat_suc, toNat_pre] at mo0_7
  have mo1_7 := m_set_o hm_7 mo1_6 (by decide)
  have ml_7 := m_set_l hm_7 ml_6
  clear hm_7 mo0_6 mo1_6
  refine dh_nw (1) (fun M_ hM_ => (nw_alloc qaz87 rfl)) trivial mo1_7 rfl ⟨.inl (by simp <;> omega), trivial⟩ ⟨.inl (by simp <;> omega), trivial⟩ (fun m_8 hm_8 => ?_)
  have mo1_8 := m_set hm_8 mo1_7
  simp only [pS, Value.cells, Nat.reduceAdd, jnE, beE, Int.toNat_natCast, toNat_suc, toNat_pre] at mo1_8
  have mo0_8 := m_set_o hm_8 mo0_7 (by decide)
  have ml_8 := m_set_l hm_8 ml_7
  clear hm_8 mo0_7 mo1_7
  refine dh_set (0) (fun M_ hM_ => (se_store (up_m rfl up_h) (u2 rfl (u8 rfl up_h)) rfl rfl (agr hM_ mo0_8 (by simp)) qsz87 rfl (nle rfl))) trivial ⟨.inr (wt_one 19 17 (by kernel_rfl)), ⟨.inl (by simp <;> omega), trivial⟩⟩ ⟨.inr (wt_one 19 17 (by kernel_rfl)), ⟨.inl (by simp <;> omega), trivial⟩⟩ (fun m_9 hm_9 => ?_)
  have mo0_9 := m_set hm_9 mo0_8
  simp only [pS, Value.cells, Nat.reduceAdd, jnE, beE, Int.toNat_natCast, toNat_suc, toNat_pre] at mo0_9
  have mo1_9 := m_set_o hm_9 mo1_8 (by decide)
  have ml_9 := m_set_l hm_9 ml_8
  clear hm_9 mo1_8 mo0_8
  refine dh_nil rfl ?_
  refine al_stm (st_store (up_n up_h) (up_n (u2 rfl up_h)) rfl rfl mo1_9 qsz87 rfl (nle rfl)) trivial rfl (fun m_10 hm_10 => ?_)
  have mo1_10 := m_set hm_10 mo1_9
  simp only [pS, Value.cells, Nat.reduceAdd, jnE, beE, Int.toNat_natCast, toNat_suc, toNat_pre] at mo1_10
  have mo0_10 := m_set_o hm_10 mo0_9 (by decide)
  have ml_10 := m_set_l hm_10 ml_9
  clear hm_10 mo0_9 mo1_9
  refine ae5 (up_n (up_n (up_m rfl (u2 rfl (u16 rfl s1_3))))) (up_n (up_n (up_m rfl (u2 rfl (u16 rfl s7_3))))) (up_n (up_n (up_m rfl (u2 rfl (u16 rfl s8_3))))) (up_n (up_n (up_m rfl up_h))) (up_n (up_n up_h)) ?_; clear s0_3 s1_3 s24_3 s2_3 s7_3 s8_3; intro e_11 s1_11 s7_11 s8_11 s9_11 s10_11
  refine then_n <| aw_seq <| at_ <| ar (ro_assign ev_c) rfl <| ae6 (up_m rfl s1_11) (up_m rfl s7_11) (up_m rfl s8_11) (up_m rfl s9_11) (up_m rfl s10_11) up_h ?_; clear s10_11 s1_11 s7_11 s8_11 s9_11; intro e_12 s1_12 s7_12 s8_12 s9_12 s10_12 s11_12
  refine then_n <| aw_seq <| aw_draw 14 (by kernel_rfl) (by kernel_rfl) (by kernel_rfl) (by kernel_rfl) ?_
  refine dr (ro_move s11_12) rfl <| dr (ro_move (up_m rfl s1_12)) rfl ?_
  (refine dr (ro_mul' (up_m rfl up_h) up_h ?_) rfl ?_; · ((first | unfold In64 | unfold InU64); omega))
  refine dr (ro_move (up_m rfl (u2 rfl s7_12))) rfl <| dr (ro_call (evL_cons up_h (evL_cons ev_c evL_nil)) rfl ((compare_ok _ _).mono (fun q h => show q = mA (sgnV (benN l j)) from h)) qhcf137) rfl ?_
  refine dr (ro_fld_ptr qfl87_1 rfl (up_m rfl (u4 rfl s9_12))) rfl <| dr (ro_eq (ro_ld_ptr y47_ty3 rfl mo0_10 up_h (nle rfl)) (by simp only [pS, Value.cells, Nat.reduceAdd, jnE, beE, Int.toNat_natCast, toNat_suc, toNat_pre] <;> rfl)) rfl ?_
  refine dr (ro_fld_ptr qfl87_1 rfl (up_m rfl (u2 rfl (u4 rfl s10_12)))) rfl <| dr (ro_eq (ro_ld_ptr y47_ty3 rfl mo1_10 up_h (nle rfl)) (by simp only [pS, Value.cells, Nat.reduceAdd, jnE, beE, Int.toNat_natCast, toNat_suc, toNat_pre] <;> rfl)) rfl ?_
  (refine dr (ro_add' (u2 rfl up_h) up_h ?_) rfl ?_; · ((first | unfold In64 | unfold InU64); omega))
  (refine dr (ro_mul' (up_m rfl (u4 rfl up_h)) up_h ?_) rfl ?_; · ((first | unfold In64 | unfold InU64); omega))
  (refine dr (ro_mul' up_h ev_c ?_) rfl ?_; · ((first | unfold In64 | unfold InU64); omega))
  (refine dr (ro_add' (up_m rfl (u8 rfl up_h)) up_h ?_) rfl ?_; · ((first | unfold In64 | unfold InU64); omega))
  refine dr (ro_assign up_h) rfl <| ds_nil <| ae6 (u2 rfl (u4 rfl (u8 rfl s7_12))) (u2 rfl (u4 rfl (u8 rfl s8_12))) (u2 rfl (u4 rfl (u8 rfl s9_12))) (u2 rfl (u4 rfl (u8 rfl s10_12))) (u2 rfl (u4 rfl (u8 rfl s11_12))) up_h ?_; clear s10_12 s11_12 s1_12 s7_12 s8_12 s9_12; intro e_13 s7_13 s8_13 s9_13 s10_13 s11_13 s12_13
  refine then_n <| aw_seq <| aw_seq <| at_ <| ar (ro_move s12_13) rfl <| ar (ro_lss up_h ev_c) rfl <| ae7 (u2 rfl s7_13) (u2 rfl s8_13) (u2 rfl s9_13) (u2 rfl s10_13) (u2 rfl s11_13) (u2 rfl s12_13) up_h ?_; clear s10_13 s11_13 s12_13 s7_13 s8_13 s9_13; intro e_14 s7_14 s8_14 s9_14 s10_14 s11_14 s12_14 s56_14
  refine then_n <| aw_case s56_14 (fun hq_15 => ?_) (fun hq_15 => ?_)
  ·replace hq_15 := bt hq_15
   refine aw_seq <| at_ <| ar (ro_assign ev_c) rfl <| ae1 up_h ?_; clear s10_14 s11_14 s12_14 s56_14 s7_14 s8_14 s9_14; intro e_16 s6_16
   refine then_n <| aw_ret <| then_r <| ret1 (.inr rfl) (by kernel_rfl) (resV_tmp s6_16) (.ro _ rfl) ?_
   clear s6_16 mo1_10 mo0_10 ml_10
   (rw [limV, if_neg (by assumption), if_pos (by assumption)])
  replace hq_15 := bf hq_15
  (have hh : 0 ≤ (2000 * s + sgnV (benN l j) * ((l.bs.getD (j - 1) default).cant + (l.bs.getD j default).cant) * 9810) := (by omega); have m1 := mul_in (x := (2000 * s + sgnV (benN l j) * ((l.bs.getD (j - 1) default).cant + (l.bs.getD j default).cant) * 9810)) (y := ((l.bs.getD (j - 1) default).len + (l.bs.getD j default).len)) 15886000 60000 e5 (by omega); have n1 := Int.mul_nonneg hh (show 0 ≤ ((l.bs.getD (j - 1) default).len + (l.bs.getD j default).len) by omega); have vv1 : InU64 ((2000 * s + sgnV (benN l j) * ((l.bs.getD (j - 1) default).cant + (l.bs.getD j default).cant) * 9810) * ((l.bs.getD (j - 1) default).len + (l.bs.getD j default).len)) := ⟨n1, by omega⟩; have vv2 : InU64 (benD l j) := ⟨by omega, by omega⟩; have m2 := mul_in (x := ((2000 * s + sgnV (benN l j) * ((l.bs.getD (j - 1) default).cant + (l.bs.getD j default).cant) * 9810) * ((l.bs.getD (j - 1) default).len + (l.bs.getD j default).len))) (y := benD l j) 953160000000 900000000 (by omega) (by omega); have hu2 : 18446744073709551616 ≤ (((2000 * s + sgnV (benN l j) * ((l.bs.getD (j - 1) default).cant + (l.bs.getD j default).cant) * 9810) * ((l.bs.getD (j - 1) default).len + (l.bs.getD j default).len)) * benD l j) := hu; have vv3 : InU64 ((((2000 * s + sgnV (benN l j) * ((l.bs.getD (j - 1) default).cant + (l.bs.getD j default).cant) * 9810) * ((l.bs.getD (j - 1) default).len + (l.bs.getD j default).len)) * benD l j) % 18446744073709551616) := ⟨by omega, by omega⟩; have vv4 : InU64 (2 * 2000 * max (benN l j) (-benN l j)) := ⟨by omega, by omega⟩; have dv := div64_ok ((((2000 * s + sgnV (benN l j) * ((l.bs.getD (j - 1) default).cant + (l.bs.getD j default).cant) * 9810) * ((l.bs.getD (j - 1) default).len + (l.bs.getD j default).len)) * benD l j) / 18446744073709551616) ((((2000 * s + sgnV (benN l j) * ((l.bs.getD (j - 1) default).cant + (l.bs.getD j default).cant) * 9810) * ((l.bs.getD (j - 1) default).len + (l.bs.getD j default).len)) * benD l j) % 18446744073709551616) (2 * 2000 * max (benN l j) (-benN l j)) vv3 (by omega) (by omega); rw [show (((2000 * s + sgnV (benN l j) * ((l.bs.getD (j - 1) default).cant + (l.bs.getD j default).cant) * 9810) * ((l.bs.getD (j - 1) default).len + (l.bs.getD j default).len)) * benD l j) / 18446744073709551616 * 18446744073709551616 + (((2000 * s + sgnV (benN l j) * ((l.bs.getD (j - 1) default).cant + (l.bs.getD j default).cant) * 9810) * ((l.bs.getD (j - 1) default).len + (l.bs.getD j default).len)) * benD l j) % 18446744073709551616 = (((2000 * s + sgnV (benN l j) * ((l.bs.getD (j - 1) default).cant + (l.bs.getD j default).cant) * 9810) * ((l.bs.getD (j - 1) default).len + (l.bs.getD j default).len)) * benD l j) by omega] at dv; have vv6 := Int.ediv_nonneg (show 0 ≤ (((2000 * s + sgnV (benN l j) * ((l.bs.getD (j - 1) default).cant + (l.bs.getD j default).cant) * 9810) * ((l.bs.getD (j - 1) default).len + (l.bs.getD j default).len)) * benD l j) by omega) (show 0 ≤ (2 * 2000 * max (benN l j) (-benN l j)) by omega); have vv7 := Int.emod_nonneg ((((2000 * s + sgnV (benN l j) * ((l.bs.getD (j - 1) default).cant + (l.bs.getD j default).cant) * 9810) * ((l.bs.getD (j - 1) default).len + (l.bs.getD j default).len)) * benD l j)) (show (2 * 2000 * max (benN l j) (-benN l j)) ≠ 0 by omega); unfold InU64 at vv1 vv2 vv4; have vv5 : 0 < (2 * 2000 * max (benN l j) (-benN l j)) := (by omega))
  refine aw_skip <| then_n <| aw_seq <| at_ <| ar (ro_move s12_14) rfl <| ar (ro_fld_ptr qfl87_0 rfl (up_m rfl s9_14)) rfl <| ar (ro_eq (ro_ld_ptr y47_ty3 rfl mo0_10 up_h (nle rfl)) (by simp only [pS, Value.cells, Nat.reduceAdd, jnE, beE, Int.toNat_natCast, toNat_suc, toNat_pre] <;> rfl)) rfl ?_
  refine ar (ro_fld_ptr qfl87_0 rfl (up_m rfl (u2 rfl s10_14))) rfl <| ar (ro_eq (ro_ld_ptr y47_ty3 rfl mo1_10 up_h (nle rfl)) (by simp only [pS, Value.cells, Nat.reduceAdd, jnE, beE, Int.toNat_natCast, toNat_suc, toNat_pre] <;> rfl)) rfl ?_
  (refine ar (ro_add' (u2 rfl up_h) up_h ?_) rfl ?_; · ((first | unfold In64 | unfold InU64); omega))
  (refine ar (ro_mul' (up_m rfl (u4 rfl up_h)) up_h ?_) rfl ?_; · ((first | unfold In64 | unfold InU64); omega))
  (refine ar (ro_cvU up_h (by kernel_rfl) (by kernel_rfl) ?_) rfl ?_; · ((first | unfold In64 | unfold InU64); omega))
  refine ar (ro_move (u8 rfl s8_14)) rfl ?_
  (refine ar (ro_cvU up_h (by kernel_rfl) (by kernel_rfl) ?_) rfl ?_; · ((first | unfold In64 | unfold InU64); omega))
  refine ar (ro_call (evL_cons (u2 rfl up_h) (evL_cons up_h evL_nil)) rfl (mul64_ok _ _ vv1 vv2) qhcf138) rfl <| ar (ro_move up_h) rfl <| ar (ro_extract up_h rfl) rfl <| ar (ro_extract (up_m rfl up_h) rfl) rfl <| ar (ro_assign (up_m rfl up_h)) rfl <| ar (ro_assign (up_m rfl up_h)) rfl <| ae4 (u16 rfl s7_14) (u16 rfl s11_14) (up_m rfl up_h) up_h ?_; clear s10_14 s11_14 s12_14 s56_14 s7_14 s8_14 s9_14; intro e_17 s7_17 s11_17 s13_17 s14_17
  refine then_n <| aw_seq <| at_ <| ar (ro_move s13_17) rfl <| ar (ro_move (up_m rfl s14_17)) rfl <| ar (ro_move (u2 rfl s11_17)) rfl ?_
  (refine ar (ro_mul' ev_c up_h ?_) rfl ?_; · ((first | unfold In64 | unfold InU64); omega))
  refine ar (ro_move (u4 rfl s7_17)) rfl <| ar (ro_move (up_m rfl (u4 rfl s7_17))) rfl ?_
  (refine ar (ro_neg' up_h ?_) rfl ?_; · ((first | unfold In64 | unfold InU64); omega))
  refine ar (ro_max (u2 rfl up_h) up_h) rfl ?_
  (refine ar (ro_mul' (u4 rfl up_h) up_h ?_) rfl ?_; · ((first | unfold In64 | unfold InU64); omega))
  (refine ar (ro_cvU up_h (by kernel_rfl) (by kernel_rfl) ?_) rfl ?_; · ((first | unfold In64 | unfold InU64); omega))
  refine ar (ro_call (evL_cons (up_m rfl (u8 rfl up_h)) (evL_cons (u8 rfl up_h) (evL_cons up_h evL_nil))) rfl (dv) qhcf139) rfl <| ar (ro_move up_h) rfl <| ar (ro_extract up_h rfl) rfl <| ar (ro_extract (up_m rfl up_h) rfl) rfl <| ar (ro_assign (up_m rfl up_h)) rfl <| ar (ro_assign (up_m rfl up_h)) rfl <| ae1 (up_m rfl up_h) ?_; clear s11_17 s13_17 s14_17 s7_17; intro e_18 s15_18
  refine then_n <| aw_seq <| at_ <| ar (ro_move s15_18) rfl <| ar (ro_min up_h ev_c) rfl ?_
  (refine ar (ro_cvI up_h (by kernel_rfl) (by kernel_rfl) ?_) rfl ?_; · ((first | unfold In64 | unfold InU64); omega))
  refine ar (ro_assign up_h) rfl <| ae1 up_h ?_; clear s15_18; intro e_19 s6_19
  refine then_n <| aw_ret <| ret1 (.inr rfl) (by kernel_rfl) (resV_tmp s6_19) (.ro _ rfl) ?_
  clear s6_19 mo1_10 mo0_10 ml_10
  (rw [limV, if_neg (by assumption), if_neg (by assumption)]; rfl)
theorem limit_ok (l : Lin) (h : Rgt l) (s : Int) (hs : 0 ≤ s ∧ s ≤ 5000) (j : Nat) (hj : 1 ≤ j ∧ j + 2 ≤ l.js.length) : FnOk Try.prog 85 [tkA l, mA s, mA j] (fun q => q = mA (limV l s j)) := by
  by_cases hu : limU l s j < 18446744073709551616
  · exact limit_low l h s hs j hj hu
  · exact limit_high l h s hs j hj (by omega)
/-- The limits at the first inner joints. -/
def limL (l : Lin) (s : Int) (n : Nat) : List Int := (List.range n).map fun (i : Nat) => limV l s (i + 1)
theorem limL_len (l : Lin) (s : Int) (n : Nat) : (limL l s n).length = n := by simp [limL]
theorem limL_succ (l : Lin) (s : Int) (n : Nat) : limL l s (n + 1) = limL l s n ++ [limV l s (n + 1)] := by simp [limL, List.range_succ]
set_option maxRecDepth 100000 in
set_option maxHeartbeats 4000000 in
theorem limitsOf_good (l : Lin) (hl : Sho l) (hg : (linM l).2 = 0) (sd : Int) (hs : sidE sd = 0) : FnOk Try.prog 24 [lnA l, mA sd] (fun q => q = .tuple [.row 1 ((limL l sd (l.js.length - 2)).map iE), mA 0]) := by
  refine fnOk_of (fn := Try.f24) 42 (by kernel_rfl) rfl (by kernel_rfl) (Nat.le_of_ble_eq_true rfl) ?_
  intro e_0 m_0 hA hm_0
  have s0_0 : evA e_0 (.tmp 0) = _ := hA 0 _ rfl
  have s1_0 : evA e_0 (.tmp 1) = _ := hA 1 _ rfl
  have ml_0 : m_0.length = 0 := by rw [hm_0]; rfl
  clear hA hm_0
  have h := rgt_of hg; have hn1 := h.n1; have hn0 := h.n0; have hjs := h.js; have hs2 := sidE_z.1 hs
  refine aw_seq <| at_ <| al_stm (st_box s0_0 rfl ml_0) trivial rfl (fun m_1 hm_1 => ?_)
  have mo0_1 := m_push hm_1 ml_0
  have ml_1 := m_push_l hm_1 ml_0
  have ml_1 : _ = 1 := ml_1
  clear hm_1
  refine ar (ro_assign ev_c) rfl <| ar (ro_assign ev_c) rfl <| ae2 (up_m rfl (u2 rfl s1_0)) (u2 rfl up_h) ?_; clear s0_0 s1_0; intro e_2 s1_2 s2_2
  refine then_n <| aw_seq <| at_ <| ar (ro_eq (ro_ld_ptr y47_ty26 rfl mo0_1 s2_2 (nle rfl)) (by simp only [pS, Value.cells, Nat.reduceAdd, one_iE, app_m] <;> rfl)) rfl ?_
  refine ar (ro_call (evL_cons up_h evL_nil) rfl (yOpen_good l hl hg) qhcf76) rfl <| ar (ro_move up_h) rfl <| ar (ro_extract up_h rfl) rfl <| ar (ro_extract (up_m rfl up_h) rfl) rfl <| ar (ro_assign (up_m rfl up_h)) rfl <| ar (ro_assign (up_m rfl up_h)) rfl <| ae3 (up_m rfl (u2 rfl (u4 rfl s1_2))) (up_m rfl up_h) up_h ?_; clear s1_2 s2_2; intro e_3 s1_3 s6_3 s7_3
  refine then_n <| aw_seq <| aw_seq <| at_ <| ar (ro_move s7_3) rfl <| ar (ro_move (up_m rfl s1_3)) rfl <| ar (ro_call (evL_cons up_h evL_nil) rfl (sideErr_ok _) y47_hcf83) rfl <| ar (ro_lit y47_sl185 (evP_cons (u2 rfl up_h) (evP_cons up_h evP_nil)) rfl rfl rfl rfl) rfl <| ar (ro_call (evL_cons up_h evL_nil) rfl ((yFirst_ok [_, _] (by simp)).mono (fun q h => h.trans (show mA (firstE [0, unlessE (withinB sd 0 5000) 2]) = mA (sidE sd) from congrArg mA (firstE_0 _)))) qhcf77) rfl ?_
  refine ar (ro_assign up_h) rfl <| ae3 (u2 rfl (u4 rfl s1_3)) (u2 rfl (u4 rfl s6_3)) up_h ?_; clear s1_3 s6_3 s7_3; intro e_4 s1_4 s6_4 s7_4
  refine then_n <| aw_seq <| at_ <| ar (ro_move s7_4) rfl <| ar (ro_neq up_h ev_c) rfl <| ae4 (u2 rfl s1_4) (u2 rfl s6_4) (u2 rfl s7_4) up_h ?_; clear s1_4 s6_4 s7_4; intro e_5 s1_5 s6_5 s7_5 s21_5
  refine then_n <| aw_case s21_5 (fun hq_6 => ?_) (fun hq_6 => ?_)
  · replace hq_6 := bnt hq_6; exfalso; omega
  replace hq_6 := bnf hq_6
  refine aw_skip <| then_n <| aw_seq <| at_ <| ar (ro_assign ev_c) rfl <| ae3 (up_m rfl s1_5) (up_m rfl s6_5) up_h ?_; clear s1_5 s21_5 s6_5 s7_5; intro e_7 s1_7 s6_7 s8_7
  refine then_n <| aw_seq <| aw_seq <| at_ <| ar (ro_assign ev_c) rfl <| ae4 (up_m rfl s1_7) (up_m rfl s6_7) (up_m rfl s8_7) up_h ?_; clear s1_7 s6_7 s8_7; intro e_8 s1_8 s6_8 s8_8 s9_8
  refine then_n <| aw_block <| aw_adopt 3 1 s8_8 ml_1 (fun m_9 e_9 hm_9 he_9 => ?_)
  have mo1_9 := m_push hm_9 ml_1
  have mo0_9 := m_push_o hm_9 mo0_1
  have ml_9 := m_push_l hm_9 ml_1
  have ml_9 : _ = 2 := ml_9
  have s1_9 : evA e_9 (.tmp 1) = _ := (congrArg (fun q => evA q (.tmp 1)) he_9).trans (up_m rfl s1_8)
  have s6_9 : evA e_9 (.tmp 6) = _ := (congrArg (fun q => evA q (.tmp 6)) he_9).trans (up_m rfl s6_8)
  have s8_9 : evA e_9 (.tmp 8) = _ := (congrArg (fun q => evA q (.tmp 8)) he_9).trans up_h
  have s9_9 : evA e_9 (.tmp 9) = _ := (congrArg (fun q => evA q (.tmp 9)) he_9).trans (up_m rfl s9_8)
  clear hm_9 he_9
  refine aw_loop (S := (Int × List Int)) (fun s e mem => match s with | ⟨k, xs⟩ => (evA e (.tmp 9) = .v (.int .i64 k)) ∧ (evA e (.tmp 1) = evA e_9 (.tmp 1)) ∧ (evA e (.tmp 6) = evA e_9 (.tmp 6)) ∧ (mem[0]? = m_9[0]?) ∧ (∃ j, evA e (.tmp 8) = .own j ∧ mem[j]? = some (.row 3 1 (xs.map iE)) ∧ j ≠ 0) ∧ (∃ n, mem.length = n ∧ 2 ≤ n) ∧ ((1 ≤ k ∧ k + 1 ≤ l.js.length ∧ xs = limL l sd (k.toNat - 1)))) (fun s => match s with | ⟨k, xs⟩ => (l.js.length - k).toNat) ⟨_, []⟩ ⟨s9_9, rfl, rfl, rfl, ⟨_, s8_9, mo1_9, (by decide)⟩, ⟨_, ml_9, Nat.le_refl _⟩, ?_⟩ ?_
  · (exact ⟨by omega, by omega, rfl⟩)
  · rintro ⟨k, xs⟩ e_10 m_10 ⟨s9_10, k1_10, k6_10, mk0_10, ⟨j8_10, s8_10, mo_j8_10, nj8_0_10⟩, ⟨n_10, ml_10, hn_10⟩, hinv⟩
    have s1_10 := k1_10.trans s1_9
    have s6_10 := k6_10.trans s6_9
    have mo0_10 := mk0_10.trans mo0_9
    have jl8_10 := m_lt mo_j8_10 ml_10
    (obtain ⟨p1, p2, p3⟩ := hinv; have hxl : xs.length = k.toNat - 1 := (by rw [p3, limL_len]))
    refine aw_seq <| aw_seq <| at_ <| ar (ro_move s9_10) rfl <| ar (ro_move (up_m rfl s6_10)) rfl <| ar (ro_nilR up_h) rfl <| ar (ro_eq (ro_fld_ref qfl141_0 rfl up_h) (by simp only [pS, Value.cells, Nat.reduceAdd, one_iE, app_m] <;> rfl)) rfl ?_
    refine ar (ro_eq (ro_fld_ref qfl26_1 rfl up_h) (by simp only [pS, Value.cells, Nat.reduceAdd, one_iE, app_m] <;> rfl)) rfl ?_
    refine ar (ro_eq (ro_ld_ref y47_ty22 rfl up_h (nle rfl)) (by simp only [pS, Value.cells, Nat.reduceAdd, one_iE, app_m] <;> rfl)) rfl ?_
    refine ar (ro_eq (ro_len_row up_h rfl y47_sl22.1) (by simp only [lnS] <;> rfl)) rfl ?_
    (refine ar (ro_sub' up_h ev_c ?_) rfl ?_; · (unfold In64; omega))
    refine ar (ro_lss (up_m rfl (u2 rfl (u4 rfl up_h))) up_h) rfl <| ae5 (up_m rfl (u8 rfl s1_10)) (up_m rfl (u8 rfl s6_10)) (up_m rfl (u8 rfl s8_10)) (up_m rfl (u8 rfl s9_10)) up_h ?_; clear s1_10 s6_10 s8_10 s9_10; intro e_11 s1_11 s6_11 s8_11 s9_11 s31_11
    refine then_n <| aw_case s31_11 (fun hq_12 => ?_) (fun hq_12 => ?_)
    ·replace hq_12 := bt hq_12
     (have lm := limit_ok l h sd hs2 k.toNat (by omega); rw [show ((k.toNat : Nat) : Int) = k by omega] at lm)
     refine aw_skip <| then_n <| aw_seq <| aw_block <| at_ <| ar (ro_move s8_11) rfl <| ar (ro_move (up_m rfl s6_11)) rfl <| ar (ro_move (u2 rfl s1_11)) rfl <| ar (ro_move (up_m rfl (u2 rfl s9_11))) rfl <| ar (ro_call (evL_cons (u2 rfl up_h) (evL_cons (up_m rfl up_h) (evL_cons up_h evL_nil))) rfl (lm) y47_hcf85) rfl <| ar (ro_lit y47_sl49 (evP_cons up_h evP_nil) rfl rfl rfl rfl) rfl <| al_stm (st_app y47_sl49 rfl ml_10 mo_j8_10 (up_m rfl (u4 rfl up_h)) up_h (by rfl) (by simp only [lnS] <;> omega)) trivial rfl (fun m_13 hm_13 => ?_)
     have mon_10_13 := m_swap hm_13 ml_10
     simp only [pS, Value.cells, Nat.reduceAdd, one_iE, app_m] at mon_10_13
     have mo0_13 := m_swap_o hm_13 mo0_10 (by omega)
     have ml_13 := m_swap_l hm_13 ml_10
     clear hm_13 mo0_10 mo_j8_10
     refine ar (ro_assign up_h) rfl <| ae4 (u8 rfl s1_11) (u8 rfl s6_11) up_h (u8 rfl s9_11) ?_; clear s1_11 s31_11 s6_11 s8_11 s9_11; intro e_14 s1_14 s6_14 s8_14 s9_14
     refine block_n <| then_n <| at_ <| ar (ro_move s9_14) rfl ?_
     (refine ar (ro_add' up_h ev_c ?_) rfl ?_; · (unfold In64; omega))
     refine ar (ro_assign up_h) rfl <| ae4 (up_m rfl (u2 rfl s1_14)) (up_m rfl (u2 rfl s6_14)) (up_m rfl (u2 rfl s8_14)) up_h ?_; clear s1_14 s6_14 s8_14 s9_14; intro e_15 s1_15 s6_15 s8_15 s9_15
     refine then_n <| ⟨⟨_, _⟩, ⟨s9_15, (s1_15.trans s1_9.symm), (s6_15.trans s6_9.symm), (mo0_13.trans mo0_9.symm), ⟨_, s8_15, mon_10_13, (by omega)⟩, ⟨_, ml_13, by omega⟩, ?_⟩, ?_⟩
     · (refine ⟨by omega, by omega, ?_⟩; rw [show (k + 1).toNat - 1 = (k.toNat - 1) + 1 by omega, limL_succ, ← p3, show k.toNat - 1 + 1 = k.toNat by omega])
     · ((try dsimp only); omega)
    replace hq_12 := bf hq_12
    (have hx : xs = limL l sd (l.js.length - 2) := (by rw [p3]; congr 1; omega); clear p3; subst hx)
    refine aw_exit <| then_x <| then_x <| block_hit <| then_n <| aw_seq <| at_ <| ar (ro_move s8_11) rfl <| ar (ro_assign up_h) rfl <| ar (ro_assign ev_c) rfl <| ae2 (up_m rfl up_h) up_h ?_; clear s1_11 s31_11 s6_11 s8_11 s9_11; intro e_16 s4_16 s5_16
    refine then_n <| aw_ret <| ret2 (.inr rfl) (by kernel_rfl) (resV_tmp s4_16) (resV_tmp s5_16) (.own _ _ _ _ mo_j8_10) (.ro _ rfl) ?_
    clear s4_16 s5_16 mo0_10 mo_j8_10 ml_10
    rfl
end Go.Proofs.Ytonjcljnpcmenaa

