/- Texts of this claim, one behind the other: lemmas for the statement. -/
import Derived.Test.YtonjcljnpcmenaaM6
/- Contracts: a quotient of two words by one, walked. No conditions on a program. -/
namespace Go.Proofs.Ytonjcljnpcmenaa
open Go Go.RowKit Go.Proofs
set_option linter.unusedSimpArgs false
set_option linter.unusedVariables false
theorem y46_hcf162 : ∀ args w, (callFunc 162 args).run Try.prog w = .ok (.enter 162 args) w := fun _ _ => by kernel_rfl

theorem avu {m n : Int} (h : m = n) : uA m = uA n := by rw [h]
theorem tup2 {a b c d : Int} (h1 : a = b) (h2 : c = d) : AV.tuple [uA a, uA c] = AV.tuple [uA b, uA d] := by rw [h1, h2]
set_option maxRecDepth 100000 in
set_option maxHeartbeats 4000000 in
theorem div64_walk (hi lo y : Int) (s : Nat) (p q2 Y u v : Int) (h : Dv hi lo y s p q2 Y u v) : FnOk Try.prog 139 [uA hi, uA lo, uA y] (fun q => q = .tuple [uA (dq1 Y u v * 4294967296 + dq0 Y u v), uA (dR Y u v / p)]) := by
  refine fnOk_of (fn := Try.f139) 135 (by kernel_rfl) rfl (by kernel_rfl) (Nat.le_of_ble_eq_true rfl) ?_
  intro e_0 m_0 hA hm_0
  have s0_0 : evA e_0 (.tmp 0) = _ := hA 0 _ rfl
  have s1_0 : evA e_0 (.tmp 1) = _ := hA 1 _ rfl
  have s2_0 : evA e_0 (.tmp 2) = _ := hA 2 _ rfl
  have ml_0 : m_0.length = 0 := by rw [hm_0]; rfl
  clear hA hm_0
  have hlo := h.lo0; have hh := h.hh; have hs := h.s0; have hYb := h.Yb; have hub := h.ub; have hv0 := h.hv; have hor := h.ok; have hip := h.hip; have a1 := h.hal1; have a2 := h.hal0; have hU := h.U; have hR := h.R; have b1 := a1.q; have b2 := a2.q; have f1 := a1.first; have f2 := a2.first; have hall := h.all; unfold InU64 at hlo hip; have g1 : 0 ≤ u / (Y / 4294967296) * (Y / 4294967296) := Int.mul_nonneg (Int.ediv_nonneg hub.1 (by omega)) (by omega); have g2 : 0 ≤ dU Y u v / (Y / 4294967296) * (Y / 4294967296) := Int.mul_nonneg (Int.ediv_nonneg hU.1 (by omega)) (by omega); have hyb : y ≤ Y := (by rw [← h.hY]; have hp1 : (1 : Int) ≤ p := (by rw [← h.hp]; exact_mod_cast Nat.pow_pos (by decide)); have := Int.mul_le_mul_of_nonneg_left hp1 (show 0 ≤ y by omega); omega); have c1 : dq1 Y u v = halQ (Y / 4294967296) (Y % 4294967296) u (v / 4294967296) := rfl; have c2 : dq0 Y u v = halQ (Y / 4294967296) (Y % 4294967296) (dU Y u v) (v % 4294967296) := rfl; have hor2 : OrOk (IntKind.u64.wrap (hi * ((2 ^ min ((s : Int)).toNat IntKind.u64.bits : Nat) : Int))) (lo / ((2 ^ min ((64 : Int) - (s : Int)).toNat IntKind.u64.bits : Nat) : Int)) := (by rw [shp (by omega), shq (by omega), h.hp, h.hq2, wrapU_in h.hip]; exact h.ok)
  refine aw_seq <| at_ <| ar (ro_assign ev_c) rfl <| ar (ro_assign ev_c) rfl <| ae3 (u2 rfl s0_0) (u2 rfl s1_0) (u2 rfl s2_0) ?_; clear s0_0 s1_0 s2_0; intro e_1 s0_1 s1_1 s2_1
  refine then_n <| aw_seq <| aw_seq <| at_ <| ar (ro_move s2_1) rfl <| ar (ro_eql up_h ev_c) rfl ?_
  refine ae4 (u2 rfl s0_1) (u2 rfl s1_1) (u2 rfl s2_1) up_h ?_; clear s0_1 s1_1 s2_1; intro e_2 s0_2 s1_2 s2_2 s20_2
  refine then_n <| aw_case s20_2 (fun hq_3 => ?_) (fun hq_3 => ?_)
  · replace hq_3 := bt hq_3; exfalso; omega
  replace hq_3 := bf hq_3
  refine aw_skip <| then_n <| aw_seq <| aw_seq <| at_ <| ar (ro_move s2_2) rfl <| ar (ro_move (up_m rfl s0_2)) rfl <| ar (ro_leq (up_m rfl up_h) up_h) rfl <| ae4 (up_m rfl (u2 rfl s0_2)) (up_m rfl (u2 rfl s1_2)) (up_m rfl (u2 rfl s2_2)) up_h ?_; clear s0_2 s1_2 s20_2 s2_2; intro e_4 s0_4 s1_4 s2_4 s24_4
  refine then_n <| aw_case s24_4 (fun hq_5 => ?_) (fun hq_5 => ?_)
  · replace hq_5 := bt hq_5; exfalso; omega
  replace hq_5 := bf hq_5
  refine aw_skip <| then_n <| aw_seq <| aw_seq <| at_ <| ar (ro_move s0_4) rfl <| ar (ro_eql up_h ev_c) rfl ?_
  refine ae4 (u2 rfl s0_4) (u2 rfl s1_4) (u2 rfl s2_4) up_h ?_; clear s0_4 s1_4 s24_4 s2_4; intro e_6 s0_6 s1_6 s2_6 s27_6
  refine then_n <| aw_case s27_6 (fun hq_7 => ?_) (fun hq_7 => ?_)
  · replace hq_7 := bt hq_7; exfalso; omega
  replace hq_7 := bf hq_7
  refine aw_skip <| then_n <| aw_seq <| aw_cut (fun e mem => (evA e (.tmp 8) = .v (.int .u64 s)) ∧ (evA e (.tmp 0) = evA e_6 (.tmp 0)) ∧ (evA e (.tmp 1) = evA e_6 (.tmp 1)) ∧ (evA e (.tmp 2) = evA e_6 (.tmp 2)) ∧ m_0 = mem) ?_ ?_
  ·
    refine at_ <| ar (ro_move s2_6) rfl <| ar (ro_call (evL_cons up_h evL_nil) rfl (lead64_ok y ⟨by omega, by omega⟩) y46_hcf162) rfl ?_
    refine ar (ro_cv (k' := .u64) up_h (by kernel_rfl) (by kernel_rfl)) rfl ?_
    refine ar (ro_assign up_h) rfl <| ae4 (u4 rfl s0_6) (u4 rfl s1_6) (u4 rfl s2_6) up_h ?_; intro e_9 s0_9 s1_9 s2_9 s8_9
    refine then_n ⟨(s8_9).trans (by (refine avu ?_; rw [← h.sb]; first | rfl | (rw [wrapU_eq]; have := h.sb; omega))), (s0_9).trans (s0_6).symm, (s1_9).trans (s1_6).symm, (s2_9).trans (s2_6).symm, rfl⟩
  · rintro e_8 _ ⟨s8_8, k0_8, k1_8, k2_8, rfl⟩
    have s0_8 := k0_8.trans s0_6
    have s1_8 := k1_8.trans s1_6
    have s2_8 := k2_8.trans s2_6
    refine aw_seq <| aw_cut (fun e mem => (evA e (.tmp 2) = .v (.int .u64 Y)) ∧ (evA e (.tmp 0) = evA e_8 (.tmp 0)) ∧ (evA e (.tmp 1) = evA e_8 (.tmp 1)) ∧ (evA e (.tmp 8) = evA e_8 (.tmp 8)) ∧ m_0 = mem) ?_ ?_
    ·
      refine at_ <| ar (ro_move s2_8) rfl <| ar (ro_move (up_m rfl s8_8)) rfl <| ar (ro_shl (up_m rfl up_h) up_h (by omega) rfl) rfl ?_
      refine ar (ro_assign up_h) rfl <| ae4 (u4 rfl s0_8) (u4 rfl s1_8) up_h (u4 rfl s8_8) ?_; intro e_11 s0_11 s1_11 s2_11 s8_11
      refine then_n ⟨(s2_11).trans (by (refine avu ?_; rw [shp (by omega), h.hp, h.hY, wrapU_eq]; omega)), (s0_11).trans (s0_8).symm, (s1_11).trans (s1_8).symm, (s8_11).trans (s8_8).symm, rfl⟩
    · rintro e_10 _ ⟨s2_10, k0_10, k1_10, k8_10, rfl⟩
      have s0_10 := k0_10.trans s0_8
      have s1_10 := k1_10.trans s1_8
      have s8_10 := k8_10.trans s8_8
      refine aw_seq <| at_ <| ar (ro_move s2_10) rfl <| ar (ro_shr (c := 4294967296) up_h ev_c (by decide) (by decide)) rfl ?_
      refine ar (ro_assign up_h) rfl <| ae5 (up_m rfl (u2 rfl s0_10)) (up_m rfl (u2 rfl s1_10)) (up_m rfl (u2 rfl s2_10)) (up_m rfl (u2 rfl s8_10)) up_h ?_; clear s0_10 s1_10 s2_10 s8_10; intro e_12 s0_12 s1_12 s2_12 s8_12 s9_12
      refine then_n <| aw_seq <| at_ <| ar (ro_move s2_12) rfl ?_
      (refine ar (ro_andL (c := 4294967296) up_h ev_c 32 (by decide) (by decide) (by decide) ?_) rfl ?_; · ((first | unfold In64 | unfold InU64); omega))
      refine ar (ro_assign up_h) rfl <| ae6 (up_m rfl (u2 rfl s0_12)) (up_m rfl (u2 rfl s1_12)) (up_m rfl (u2 rfl s2_12)) (up_m rfl (u2 rfl s8_12)) (up_m rfl (u2 rfl s9_12)) up_h ?_; clear s0_12 s1_12 s2_12 s8_12 s9_12; intro e_13 s0_13 s1_13 s2_13 s8_13 s9_13 s10_13
      refine then_n <| aw_seq <| aw_cut (fun e mem => (evA e (.tmp 11) = .v (.int .u64 u)) ∧ (evA e (.tmp 1) = evA e_13 (.tmp 1)) ∧ (evA e (.tmp 2) = evA e_13 (.tmp 2)) ∧ (evA e (.tmp 8) = evA e_13 (.tmp 8)) ∧ (evA e (.tmp 9) = evA e_13 (.tmp 9)) ∧ (evA e (.tmp 10) = evA e_13 (.tmp 10)) ∧ m_0 = mem) ?_ ?_
      ·
        refine at_ <| ar (ro_move s0_13) rfl <| ar (ro_move (up_m rfl s8_13)) rfl <| ar (ro_shl (up_m rfl up_h) up_h (by omega) rfl) rfl ?_
        refine ar (ro_move (up_m rfl (u2 rfl s1_13))) rfl <| ar (ro_move (u4 rfl s8_13)) rfl ?_
        (refine ar (ro_subU ev_c up_h ?_) rfl ?_; · ((first | unfold In64 | unfold InU64); omega))
        refine ar (ro_shr (u2 rfl up_h) up_h (by omega) rfl) rfl ?_
        refine ar (ro_orU (u4 rfl up_h) up_h (by assumption)) rfl ?_
        refine ar (ro_assign up_h) rfl <| ae6 (up_m rfl (u8 rfl s1_13)) (up_m rfl (u8 rfl s2_13)) (up_m rfl (u8 rfl s8_13)) (up_m rfl (u8 rfl s9_13)) (up_m rfl (u8 rfl s10_13)) up_h ?_; intro e_15 s1_15 s2_15 s8_15 s9_15 s10_15 s11_15
        refine then_n ⟨(s11_15).trans (by (refine avu ?_; rw [shp (by omega), shq (by omega), h.hp, h.hq2, wrapU_in h.hip, h.hu])), (s1_15).trans (s1_13).symm, (s2_15).trans (s2_13).symm, (s8_15).trans (s8_13).symm, (s9_15).trans (s9_13).symm, (s10_15).trans (s10_13).symm, rfl⟩
      · rintro e_14 _ ⟨s11_14, k1_14, k2_14, k8_14, k9_14, k10_14, rfl⟩
        have s1_14 := k1_14.trans s1_13
        have s2_14 := k2_14.trans s2_13
        have s8_14 := k8_14.trans s8_13
        have s9_14 := k9_14.trans s9_13
        have s10_14 := k10_14.trans s10_13
        refine aw_seq <| aw_cut (fun e mem => (evA e (.tmp 12) = .v (.int .u64 v)) ∧ (evA e (.tmp 2) = evA e_14 (.tmp 2)) ∧ (evA e (.tmp 8) = evA e_14 (.tmp 8)) ∧ (evA e (.tmp 9) = evA e_14 (.tmp 9)) ∧ (evA e (.tmp 10) = evA e_14 (.tmp 10)) ∧ (evA e (.tmp 11) = evA e_14 (.tmp 11)) ∧ m_0 = mem) ?_ ?_
        ·
          refine at_ <| ar (ro_move s1_14) rfl <| ar (ro_move (up_m rfl s8_14)) rfl <| ar (ro_shl (up_m rfl up_h) up_h (by omega) rfl) rfl ?_
          refine ar (ro_assign up_h) rfl <| ae6 (u4 rfl s2_14) (u4 rfl s8_14) (u4 rfl s9_14) (u4 rfl s10_14) (u4 rfl s11_14) up_h ?_; intro e_17 s2_17 s8_17 s9_17 s10_17 s11_17 s12_17
          refine then_n ⟨(s12_17).trans (by (refine avu ?_; rw [shp (by omega), h.hp, wrapU_eq, h.hv])), (s2_17).trans (s2_14).symm, (s8_17).trans (s8_14).symm, (s9_17).trans (s9_14).symm, (s10_17).trans (s10_14).symm, (s11_17).trans (s11_14).symm, rfl⟩
        · rintro e_16 _ ⟨s12_16, k2_16, k8_16, k9_16, k10_16, k11_16, rfl⟩
          have s2_16 := k2_16.trans s2_14
          have s8_16 := k8_16.trans s8_14
          have s9_16 := k9_16.trans s9_14
          have s10_16 := k10_16.trans s10_14
          have s11_16 := k11_16.trans s11_14
          refine aw_seq <| at_ <| ar (ro_move s12_16) rfl <| ar (ro_shr (c := 4294967296) up_h ev_c (by decide) (by decide)) rfl ?_
          refine ar (ro_assign up_h) rfl <| ae7 (up_m rfl (u2 rfl s2_16)) (up_m rfl (u2 rfl s8_16)) (up_m rfl (u2 rfl s9_16)) (up_m rfl (u2 rfl s10_16)) (up_m rfl (u2 rfl s11_16)) (up_m rfl (u2 rfl s12_16)) up_h ?_; clear s10_16 s11_16 s12_16 s2_16 s8_16 s9_16; intro e_18 s2_18 s8_18 s9_18 s10_18 s11_18 s12_18 s13_18
          refine then_n <| aw_seq <| at_ <| ar (ro_move s12_18) rfl ?_
          (refine ar (ro_andL (c := 4294967296) up_h ev_c 32 (by decide) (by decide) (by decide) ?_) rfl ?_; · ((first | unfold In64 | unfold InU64); omega))
          refine ar (ro_assign up_h) rfl <| ae7 (up_m rfl (u2 rfl s2_18)) (up_m rfl (u2 rfl s8_18)) (up_m rfl (u2 rfl s9_18)) (up_m rfl (u2 rfl s10_18)) (up_m rfl (u2 rfl s11_18)) (up_m rfl (u2 rfl s13_18)) up_h ?_; clear s10_18 s11_18 s12_18 s13_18 s2_18 s8_18 s9_18; intro e_19 s2_19 s8_19 s9_19 s10_19 s11_19 s13_19 s14_19
          refine then_n <| aw_seq <| at_ <| ar (ro_move s11_19) rfl <| ar (ro_move (up_m rfl s9_19)) rfl ?_
          (refine ar (ro_quoU (up_m rfl up_h) up_h (by omega) ?_) rfl ?_; · ((first | unfold In64 | unfold InU64); omega))
          refine ar (ro_assign up_h) rfl <| ae8 (u4 rfl s2_19) (u4 rfl s8_19) (u4 rfl s9_19) (u4 rfl s10_19) (u4 rfl s11_19) (u4 rfl s13_19) (u4 rfl s14_19) up_h ?_; clear s10_19 s11_19 s13_19 s14_19 s2_19 s8_19 s9_19; intro e_20 s2_20 s8_20 s9_20 s10_20 s11_20 s13_20 s14_20 s15_20
          refine then_n <| aw_seq <| at_ <| ar (ro_move s11_20) rfl <| ar (ro_move (up_m rfl s15_20)) rfl <| ar (ro_move (u2 rfl s9_20)) rfl ?_
          (refine ar (ro_mulU (up_m rfl up_h) up_h ?_) rfl ?_; · ((first | unfold In64 | unfold InU64); omega))
          (refine ar (ro_subU (up_m rfl (u2 rfl up_h)) up_h ?_) rfl ?_; · ((first | unfold In64 | unfold InU64); omega))
          refine ar (ro_assign up_h) rfl <| ae9 (u2 rfl (u4 rfl s2_20)) (u2 rfl (u4 rfl s8_20)) (u2 rfl (u4 rfl s9_20)) (u2 rfl (u4 rfl s10_20)) (u2 rfl (u4 rfl s11_20)) (u2 rfl (u4 rfl s13_20)) (u2 rfl (u4 rfl s14_20)) (u2 rfl (u4 rfl s15_20)) up_h ?_; clear s10_20 s11_20 s13_20 s14_20 s15_20 s2_20 s8_20 s9_20; intro e_21 s2_21 s8_21 s9_21 s10_21 s11_21 s13_21 s14_21 s15_21 s16_21
          refine then_n <| aw_seq <| aw_cut (fun e mem => (evA e (.tmp 15) = .v (.int .u64 (dq1 Y u v))) ∧ (evA e (.tmp 2) = evA e_21 (.tmp 2)) ∧ (evA e (.tmp 8) = evA e_21 (.tmp 8)) ∧ (evA e (.tmp 9) = evA e_21 (.tmp 9)) ∧ (evA e (.tmp 10) = evA e_21 (.tmp 10)) ∧ (evA e (.tmp 11) = evA e_21 (.tmp 11)) ∧ (evA e (.tmp 13) = evA e_21 (.tmp 13)) ∧ (evA e (.tmp 14) = evA e_21 (.tmp 14)) ∧ mem.length = 0) ?_ ?_
          ·
            refine aw_block <| aw_loop (S := (Int × Int)) (fun s e mem => match s with | ⟨q, r⟩ => (evA e (.tmp 15) = .v (.int .u64 q)) ∧ (evA e (.tmp 16) = .v (.int .u64 r)) ∧ (evA e (.tmp 2) = evA e_21 (.tmp 2)) ∧ (evA e (.tmp 8) = evA e_21 (.tmp 8)) ∧ (evA e (.tmp 9) = evA e_21 (.tmp 9)) ∧ (evA e (.tmp 10) = evA e_21 (.tmp 10)) ∧ (evA e (.tmp 11) = evA e_21 (.tmp 11)) ∧ (evA e (.tmp 13) = evA e_21 (.tmp 13)) ∧ (evA e (.tmp 14) = evA e_21 (.tmp 14)) ∧ (mem.length = 0) ∧ ((q * (Y / 4294967296) + r = u ∧ dq1 Y u v ≤ q ∧ q ≤ 4294967297 ∧ 0 ≤ r ∧ r < 4294967296))) (fun s => match s with | ⟨q, r⟩ => q.toNat) ⟨_, _⟩ ⟨s15_21, s16_21, rfl, rfl, rfl, rfl, rfl, rfl, rfl, ml_0, ?_⟩ ?_
            · (exact ⟨by omega, by omega, by omega, by omega, by omega⟩)
            · rintro ⟨q, r⟩ e_23 m_23 ⟨s15_23, s16_23, k2_23, k8_23, k9_23, k10_23, k11_23, k13_23, k14_23, ml_23, hinv⟩
              have s2_23 := k2_23.trans s2_21
              have s8_23 := k8_23.trans s8_21
              have s9_23 := k9_23.trans s9_21
              have s10_23 := k10_23.trans s10_21
              have s11_23 := k11_23.trans s11_21
              have s13_23 := k13_23.trans s13_21
              have s14_23 := k14_23.trans s14_21
              (obtain ⟨i1, i2, i3, i4, i5⟩ := hinv; have m0 : 0 ≤ q * (Y % 4294967296) ∧ q * (Y % 4294967296) ≤ 18446744073709551615 := (by have e1 := Int.mul_nonneg (show 0 ≤ q by omega) (show 0 ≤ Y % 4294967296 by omega); have e2 := Int.mul_le_mul (show q ≤ 4294967297 by omega) (show Y % 4294967296 ≤ 4294967295 by omega) (by omega) (by omega); omega); have m3 : (q - 1) * (Y / 4294967296) = q * (Y / 4294967296) - Y / 4294967296 := (by rw [Int.sub_mul, Int.one_mul]))
              refine aw_seq <| aw_seq <| at_ <| ar (ro_move s15_23) rfl <| ar (ro_geq up_h ev_c) rfl <| ar (ro_move up_h) rfl <| al_case up_h (fun hb_24 hq_24 => ?_) (fun hb_24 hq_24 => ?_)
              ·replace hq_24 := bt hq_24
               refine al_skip' ⟨_, rfl, .inl hb_24⟩ rfl ?_
               refine al_skip' ⟨_, rfl, .inl (up_m rfl hb_24)⟩ rfl ?_
               refine al_skip' ⟨_, rfl, .inl (u2 rfl hb_24)⟩ rfl ?_
               refine al_skip' ⟨_, rfl, .inl (up_m rfl (u2 rfl hb_24))⟩ rfl ?_
               refine al_skip' ⟨_, rfl, .inl (u4 rfl hb_24)⟩ rfl ?_
               refine al_skip' ⟨_, rfl, .inl (up_m rfl (u4 rfl hb_24))⟩ rfl ?_
               refine al_skip' ⟨_, rfl, .inl (u2 rfl (u4 rfl hb_24))⟩ rfl ?_
               refine al_skip' ⟨_, rfl, .inl (up_m rfl (u2 rfl (u4 rfl hb_24)))⟩ rfl ?_
               refine ar (ro_pickT (u8 rfl hb_24) ev_c) rfl <| ae10 (u4 rfl (u8 rfl s2_23)) (u4 rfl (u8 rfl s8_23)) (u4 rfl (u8 rfl s9_23)) (u4 rfl (u8 rfl s10_23)) (u4 rfl (u8 rfl s11_23)) (u4 rfl (u8 rfl s13_23)) (u4 rfl (u8 rfl s14_23)) (u4 rfl (u8 rfl s15_23)) (u4 rfl (u8 rfl s16_23)) up_h ?_; intro e_25 s2_25 s8_25 s9_25 s10_25 s11_25 s13_25 s14_25 s15_25 s16_25 s78_25
               refine then_n <| aw_true s78_25 <| aw_skip <| then_n <| aw_block <| aw_seq <| at_ <| ar (ro_move s15_25) rfl ?_
               (refine ar (ro_subU up_h ev_c ?_) rfl ?_; · ((first | unfold In64 | unfold InU64); omega))
               refine ar (ro_assign up_h) rfl <| ae9 (up_m rfl (u2 rfl s2_25)) (up_m rfl (u2 rfl s8_25)) (up_m rfl (u2 rfl s9_25)) (up_m rfl (u2 rfl s10_25)) (up_m rfl (u2 rfl s11_25)) (up_m rfl (u2 rfl s13_25)) (up_m rfl (u2 rfl s14_25)) up_h (up_m rfl (u2 rfl s16_25)) ?_; intro e_27 s2_27 s8_27 s9_27 s10_27 s11_27 s13_27 s14_27 s15_27 s16_27
               refine then_n <| aw_seq <| at_ <| ar (ro_move s16_27) rfl <| ar (ro_move (up_m rfl s9_27)) rfl ?_
               (refine ar (ro_addU (up_m rfl up_h) up_h ?_) rfl ?_; · ((first | unfold In64 | unfold InU64); omega))
               refine ar (ro_assign up_h) rfl <| ae9 (u4 rfl s2_27) (u4 rfl s8_27) (u4 rfl s9_27) (u4 rfl s10_27) (u4 rfl s11_27) (u4 rfl s13_27) (u4 rfl s14_27) (u4 rfl s15_27) up_h ?_; intro e_28 s2_28 s8_28 s9_28 s10_28 s11_28 s13_28 s14_28 s15_28 s16_28
               refine then_n <| aw_seq <| at_ <| ar (ro_move s16_28) rfl <| ar (ro_geq up_h ev_c) rfl <| ae10 (u2 rfl s2_28) (u2 rfl s8_28) (u2 rfl s9_28) (u2 rfl s10_28) (u2 rfl s11_28) (u2 rfl s13_28) (u2 rfl s14_28) (u2 rfl s15_28) (u2 rfl s16_28) up_h ?_; intro e_29 s2_29 s8_29 s9_29 s10_29 s11_29 s13_29 s14_29 s15_29 s16_29 s85_29
               refine then_n <| aw_case s85_29 (fun hq_30 => ?_) (fun hq_30 => ?_)
               ·replace hq_30 := bt hq_30
                (have hl := a1.less i1 i2 (.inl (by omega)); have hq1 : q - 1 = dq1 Y u v := a1.far (r := r + Y / 4294967296) (by omega) (by omega) (by omega) (by omega))
                refine aw_exit <| block_miss rfl <| then_x <| block_hit <| then_n ⟨(s15_29).trans (by exact avu hq1), (s2_29).trans (s2_21).symm, (s8_29).trans (s8_21).symm, (s9_29).trans (s9_21).symm, (s10_29).trans (s10_21).symm, (s11_29).trans (s11_21).symm, (s13_29).trans (s13_21).symm, (s14_29).trans (s14_21).symm, ml_23⟩
               replace hq_30 := bf hq_30
               (have hl := a1.less i1 i2 (.inl (by omega)))
               refine aw_skip <| block_n <| then_n <| ⟨⟨_, _⟩, ⟨s15_29, s16_29, (s2_29.trans s2_21.symm), (s8_29.trans s8_21.symm), (s9_29.trans s9_21.symm), (s10_29.trans s10_21.symm), (s11_29.trans s11_21.symm), (s13_29.trans s13_21.symm), (s14_29.trans s14_21.symm), ml_23, ?_⟩, ?_⟩
               · (exact ⟨by omega, by omega, by omega, by omega, by omega⟩)
               · ((try dsimp only); omega)
              replace hq_24 := bf hq_24
              refine al_ro' (ro_move (up_m rfl (u2 rfl s15_23))) ⟨_, rfl, hb_24⟩ rfl ?_
              refine al_ro' (ro_move (u4 rfl s10_23)) ⟨_, rfl, (up_m rfl hb_24)⟩ rfl ?_
              (refine al_ro' (ro_mulU (up_m rfl up_h) up_h ?_) ⟨_, rfl, (u2 rfl hb_24)⟩ rfl ?_; · ((first | unfold In64 | unfold InU64); omega))
              refine al_ro' (ro_move (u2 rfl (u4 rfl s16_23))) ⟨_, rfl, (up_m rfl (u2 rfl hb_24))⟩ rfl ?_
              (refine al_ro' (ro_mulU ev_c up_h ?_) ⟨_, rfl, (u4 rfl hb_24)⟩ rfl ?_; · ((first | unfold In64 | unfold InU64); omega))
              refine al_ro' (ro_move (u8 rfl s13_23)) ⟨_, rfl, (up_m rfl (u4 rfl hb_24))⟩ rfl ?_
              (refine al_ro' (ro_addU (up_m rfl up_h) up_h ?_) ⟨_, rfl, (u2 rfl (u4 rfl hb_24))⟩ rfl ?_; · ((first | unfold In64 | unfold InU64); omega))
              refine al_ro' (ro_gtr (u4 rfl up_h) up_h) ⟨_, rfl, (up_m rfl (u2 rfl (u4 rfl hb_24)))⟩ rfl ?_
              refine ar (ro_pickF (u8 rfl hb_24) up_h) rfl <| ae10 (u4 rfl (u8 rfl s2_23)) (u4 rfl (u8 rfl s8_23)) (u4 rfl (u8 rfl s9_23)) (u4 rfl (u8 rfl s10_23)) (u4 rfl (u8 rfl s11_23)) (u4 rfl (u8 rfl s13_23)) (u4 rfl (u8 rfl s14_23)) (u4 rfl (u8 rfl s15_23)) (u4 rfl (u8 rfl s16_23)) up_h ?_; intro e_31 s2_31 s8_31 s9_31 s10_31 s11_31 s13_31 s14_31 s15_31 s16_31 s78_31
              refine then_n <| aw_case s78_31 (fun hq_32 => ?_) (fun hq_32 => ?_)
              ·replace hq_32 := bt hq_32
               (have hl := a1.less i1 i2 (.inr (by omega)))
               refine aw_skip <| then_n <| aw_block <| aw_seq <| at_ <| ar (ro_move s15_31) rfl ?_
               (refine ar (ro_subU up_h ev_c ?_) rfl ?_; · ((first | unfold In64 | unfold InU64); omega))
               refine ar (ro_assign up_h) rfl <| ae9 (up_m rfl (u2 rfl s2_31)) (up_m rfl (u2 rfl s8_31)) (up_m rfl (u2 rfl s9_31)) (up_m rfl (u2 rfl s10_31)) (up_m rfl (u2 rfl s11_31)) (up_m rfl (u2 rfl s13_31)) (up_m rfl (u2 rfl s14_31)) up_h (up_m rfl (u2 rfl s16_31)) ?_; intro e_33 s2_33 s8_33 s9_33 s10_33 s11_33 s13_33 s14_33 s15_33 s16_33
               refine then_n <| aw_seq <| at_ <| ar (ro_move s16_33) rfl <| ar (ro_move (up_m rfl s9_33)) rfl ?_
               (refine ar (ro_addU (up_m rfl up_h) up_h ?_) rfl ?_; · ((first | unfold In64 | unfold InU64); omega))
               refine ar (ro_assign up_h) rfl <| ae9 (u4 rfl s2_33) (u4 rfl s8_33) (u4 rfl s9_33) (u4 rfl s10_33) (u4 rfl s11_33) (u4 rfl s13_33) (u4 rfl s14_33) (u4 rfl s15_33) up_h ?_; intro e_34 s2_34 s8_34 s9_34 s10_34 s11_34 s13_34 s14_34 s15_34 s16_34
               refine then_n <| aw_seq <| at_ <| ar (ro_move s16_34) rfl <| ar (ro_geq up_h ev_c) rfl <| ae10 (u2 rfl s2_34) (u2 rfl s8_34) (u2 rfl s9_34) (u2 rfl s10_34) (u2 rfl s11_34) (u2 rfl s13_34) (u2 rfl s14_34) (u2 rfl s15_34) (u2 rfl s16_34) up_h ?_; intro e_35 s2_35 s8_35 s9_35 s10_35 s11_35 s13_35 s14_35 s15_35 s16_35 s85_35
               refine then_n <| aw_case s85_35 (fun hq_36 => ?_) (fun hq_36 => ?_)
               ·replace hq_36 := bt hq_36
                (have hq1 : q - 1 = dq1 Y u v := a1.far (r := r + Y / 4294967296) (by omega) (by omega) (by omega) (by omega))
                refine aw_exit <| block_miss rfl <| then_x <| block_hit <| then_n ⟨(s15_35).trans (by exact avu hq1), (s2_35).trans (s2_21).symm, (s8_35).trans (s8_21).symm, (s9_35).trans (s9_21).symm, (s10_35).trans (s10_21).symm, (s11_35).trans (s11_21).symm, (s13_35).trans (s13_21).symm, (s14_35).trans (s14_21).symm, ml_23⟩
               replace hq_36 := bf hq_36
               refine aw_skip <| block_n <| then_n <| ⟨⟨_, _⟩, ⟨s15_35, s16_35, (s2_35.trans s2_21.symm), (s8_35.trans s8_21.symm), (s9_35.trans s9_21.symm), (s10_35.trans s10_21.symm), (s11_35.trans s11_21.symm), (s13_35.trans s13_21.symm), (s14_35.trans s14_21.symm), ml_23, ?_⟩, ?_⟩
               · (exact ⟨by omega, by omega, by omega, by omega, by omega⟩)
               · ((try dsimp only); omega)
              replace hq_32 := bf hq_32
              (have hq1 : q = dq1 Y u v := a1.done i1 i2 (by omega))
              refine aw_exit <| then_x <| then_x <| block_hit <| then_n ⟨(s15_31).trans (by exact avu hq1), (s2_31).trans (s2_21).symm, (s8_31).trans (s8_21).symm, (s9_31).trans (s9_21).symm, (s10_31).trans (s10_21).symm, (s11_31).trans (s11_21).symm, (s13_31).trans (s13_21).symm, (s14_31).trans (s14_21).symm, ml_23⟩
          · rintro e_22 m_22 ⟨s15_22, k2_22, k8_22, k9_22, k10_22, k11_22, k13_22, k14_22, ml_22⟩
            have s2_22 := k2_22.trans s2_21
            have s8_22 := k8_22.trans s8_21
            have s9_22 := k9_22.trans s9_21
            have s10_22 := k10_22.trans s10_21
            have s11_22 := k11_22.trans s11_21
            have s13_22 := k13_22.trans s13_21
            have s14_22 := k14_22.trans s14_21
            refine aw_seq <| aw_cut (fun e mem => (evA e (.tmp 17) = .v (.int .u64 (dU Y u v))) ∧ (evA e (.tmp 2) = evA e_22 (.tmp 2)) ∧ (evA e (.tmp 8) = evA e_22 (.tmp 8)) ∧ (evA e (.tmp 9) = evA e_22 (.tmp 9)) ∧ (evA e (.tmp 10) = evA e_22 (.tmp 10)) ∧ (evA e (.tmp 14) = evA e_22 (.tmp 14)) ∧ (evA e (.tmp 15) = evA e_22 (.tmp 15)) ∧ m_22 = mem) ?_ ?_
            ·
              refine at_ <| ar (ro_move s11_22) rfl <| ar (ro_mul up_h ev_c) rfl <| ar (ro_move (u2 rfl s13_22)) rfl <| ar (ro_add (up_m rfl up_h) up_h) rfl <| ar (ro_move (u4 rfl s15_22)) rfl <| ar (ro_move (up_m rfl (u4 rfl s2_22))) rfl <| ar (ro_mul (up_m rfl up_h) up_h) rfl <| ar (ro_sub (up_m rfl (u2 rfl up_h)) up_h) rfl <| ar (ro_assign up_h) rfl <| ae7 (up_m rfl (u8 rfl s2_22)) (up_m rfl (u8 rfl s8_22)) (up_m rfl (u8 rfl s9_22)) (up_m rfl (u8 rfl s10_22)) (up_m rfl (u8 rfl s14_22)) (up_m rfl (u8 rfl s15_22)) up_h ?_; intro e_38 s2_38 s8_38 s9_38 s10_38 s14_38 s15_38 s17_38
              refine then_n ⟨(s17_38).trans (by (refine avu ?_; simp only [wrapU_eq]; unfold dU at hU ⊢; omega)), (s2_38).trans (s2_22).symm, (s8_38).trans (s8_22).symm, (s9_38).trans (s9_22).symm, (s10_38).trans (s10_22).symm, (s14_38).trans (s14_22).symm, (s15_38).trans (s15_22).symm, rfl⟩
            · rintro e_37 _ ⟨s17_37, k2_37, k8_37, k9_37, k10_37, k14_37, k15_37, rfl⟩
              have s2_37 := k2_37.trans s2_22
              have s8_37 := k8_37.trans s8_22
              have s9_37 := k9_37.trans s9_22
              have s10_37 := k10_37.trans s10_22
              have s14_37 := k14_37.trans s14_22
              have s15_37 := k15_37.trans s15_22
              refine aw_seq <| at_ <| ar (ro_move s17_37) rfl <| ar (ro_move (up_m rfl s9_37)) rfl ?_
              (refine ar (ro_quoU (up_m rfl up_h) up_h (by omega) ?_) rfl ?_; · ((first | unfold In64 | unfold InU64); omega))
              refine ar (ro_assign up_h) rfl <| ae8 (u4 rfl s2_37) (u4 rfl s8_37) (u4 rfl s9_37) (u4 rfl s10_37) (u4 rfl s14_37) (u4 rfl s15_37) (u4 rfl s17_37) up_h ?_; clear s10_37 s14_37 s15_37 s17_37 s2_37 s8_37 s9_37; intro e_39 s2_39 s8_39 s9_39 s10_39 s14_39 s15_39 s17_39 s18_39
              refine then_n <| aw_seq <| at_ <| ar (ro_move s17_39) rfl <| ar (ro_move (up_m rfl s18_39)) rfl <| ar (ro_move (u2 rfl s9_39)) rfl ?_
              (refine ar (ro_mulU (up_m rfl up_h) up_h ?_) rfl ?_; · ((first | unfold In64 | unfold InU64); omega))
              (refine ar (ro_subU (up_m rfl (u2 rfl up_h)) up_h ?_) rfl ?_; · ((first | unfold In64 | unfold InU64); omega))
              refine ar (ro_assign up_h) rfl <| ae9 (u2 rfl (u4 rfl s2_39)) (u2 rfl (u4 rfl s8_39)) (u2 rfl (u4 rfl s9_39)) (u2 rfl (u4 rfl s10_39)) (u2 rfl (u4 rfl s14_39)) (u2 rfl (u4 rfl s15_39)) up_h (u2 rfl (u4 rfl s17_39)) (u2 rfl (u4 rfl s18_39)) ?_; clear s10_39 s14_39 s15_39 s17_39 s18_39 s2_39 s8_39 s9_39; intro e_40 s2_40 s8_40 s9_40 s10_40 s14_40 s15_40 s16_40 s17_40 s18_40
              refine then_n <| aw_seq <| aw_cut (fun e mem => (evA e (.tmp 18) = .v (.int .u64 (dq0 Y u v))) ∧ (evA e (.tmp 2) = evA e_40 (.tmp 2)) ∧ (evA e (.tmp 8) = evA e_40 (.tmp 8)) ∧ (evA e (.tmp 14) = evA e_40 (.tmp 14)) ∧ (evA e (.tmp 15) = evA e_40 (.tmp 15)) ∧ (evA e (.tmp 17) = evA e_40 (.tmp 17)) ∧ mem.length = 0) ?_ ?_
              ·
                refine aw_block <| aw_loop (S := (Int × Int)) (fun s e mem => match s with | ⟨x, z⟩ => (evA e (.tmp 18) = .v (.int .u64 x)) ∧ (evA e (.tmp 16) = .v (.int .u64 z)) ∧ (evA e (.tmp 2) = evA e_40 (.tmp 2)) ∧ (evA e (.tmp 8) = evA e_40 (.tmp 8)) ∧ (evA e (.tmp 9) = evA e_40 (.tmp 9)) ∧ (evA e (.tmp 10) = evA e_40 (.tmp 10)) ∧ (evA e (.tmp 14) = evA e_40 (.tmp 14)) ∧ (evA e (.tmp 15) = evA e_40 (.tmp 15)) ∧ (evA e (.tmp 17) = evA e_40 (.tmp 17)) ∧ (mem.length = 0) ∧ ((x * (Y / 4294967296) + z = dU Y u v ∧ dq0 Y u v ≤ x ∧ x ≤ 4294967297 ∧ 0 ≤ z ∧ z < 4294967296))) (fun s => match s with | ⟨x, z⟩ => x.toNat) ⟨_, _⟩ ⟨s18_40, s16_40, rfl, rfl, rfl, rfl, rfl, rfl, rfl, ml_22, ?_⟩ ?_
                · (exact ⟨by omega, by omega, by omega, by omega, by omega⟩)
                · rintro ⟨x, z⟩ e_42 m_42 ⟨s18_42, s16_42, k2_42, k8_42, k9_42, k10_42, k14_42, k15_42, k17_42, ml_42, hinv⟩
                  have s2_42 := k2_42.trans s2_40
                  have s8_42 := k8_42.trans s8_40
                  have s9_42 := k9_42.trans s9_40
                  have s10_42 := k10_42.trans s10_40
                  have s14_42 := k14_42.trans s14_40
                  have s15_42 := k15_42.trans s15_40
                  have s17_42 := k17_42.trans s17_40
                  (obtain ⟨k1, k2, k3, k4, k5⟩ := hinv; have n0 : 0 ≤ x * (Y % 4294967296) ∧ x * (Y % 4294967296) ≤ 18446744073709551615 := (by have e1 := Int.mul_nonneg (show 0 ≤ x by omega) (show 0 ≤ Y % 4294967296 by omega); have e2 := Int.mul_le_mul (show x ≤ 4294967297 by omega) (show Y % 4294967296 ≤ 4294967295 by omega) (by omega) (by omega); omega); have n3 : (x - 1) * (Y / 4294967296) = x * (Y / 4294967296) - Y / 4294967296 := (by rw [Int.sub_mul, Int.one_mul]))
                  refine aw_seq <| aw_seq <| at_ <| ar (ro_move s18_42) rfl <| ar (ro_geq up_h ev_c) rfl <| ar (ro_move up_h) rfl <| al_case up_h (fun hb_43 hq_43 => ?_) (fun hb_43 hq_43 => ?_)
                  ·replace hq_43 := bt hq_43
                   refine al_skip' ⟨_, rfl, .inl hb_43⟩ rfl ?_
                   refine al_skip' ⟨_, rfl, .inl (up_m rfl hb_43)⟩ rfl ?_
                   refine al_skip' ⟨_, rfl, .inl (u2 rfl hb_43)⟩ rfl ?_
                   refine al_skip' ⟨_, rfl, .inl (up_m rfl (u2 rfl hb_43))⟩ rfl ?_
                   refine al_skip' ⟨_, rfl, .inl (u4 rfl hb_43)⟩ rfl ?_
                   refine al_skip' ⟨_, rfl, .inl (up_m rfl (u4 rfl hb_43))⟩ rfl ?_
                   refine al_skip' ⟨_, rfl, .inl (u2 rfl (u4 rfl hb_43))⟩ rfl ?_
                   refine al_skip' ⟨_, rfl, .inl (up_m rfl (u2 rfl (u4 rfl hb_43)))⟩ rfl ?_
                   refine ar (ro_pickT (u8 rfl hb_43) ev_c) rfl <| ae10 (u4 rfl (u8 rfl s2_42)) (u4 rfl (u8 rfl s8_42)) (u4 rfl (u8 rfl s9_42)) (u4 rfl (u8 rfl s10_42)) (u4 rfl (u8 rfl s14_42)) (u4 rfl (u8 rfl s15_42)) (u4 rfl (u8 rfl s16_42)) (u4 rfl (u8 rfl s17_42)) (u4 rfl (u8 rfl s18_42)) up_h ?_; intro e_44 s2_44 s8_44 s9_44 s10_44 s14_44 s15_44 s16_44 s17_44 s18_44 s113_44
                   refine then_n <| aw_true s113_44 <| aw_skip <| then_n <| aw_block <| aw_seq <| at_ <| ar (ro_move s18_44) rfl ?_
                   (refine ar (ro_subU up_h ev_c ?_) rfl ?_; · ((first | unfold In64 | unfold InU64); omega))
                   refine ar (ro_assign up_h) rfl <| ae9 (up_m rfl (u2 rfl s2_44)) (up_m rfl (u2 rfl s8_44)) (up_m rfl (u2 rfl s9_44)) (up_m rfl (u2 rfl s10_44)) (up_m rfl (u2 rfl s14_44)) (up_m rfl (u2 rfl s15_44)) (up_m rfl (u2 rfl s16_44)) (up_m rfl (u2 rfl s17_44)) up_h ?_; intro e_46 s2_46 s8_46 s9_46 s10_46 s14_46 s15_46 s16_46 s17_46 s18_46
                   refine then_n <| aw_seq <| at_ <| ar (ro_move s16_46) rfl <| ar (ro_move (up_m rfl s9_46)) rfl ?_
                   (refine ar (ro_addU (up_m rfl up_h) up_h ?_) rfl ?_; · ((first | unfold In64 | unfold InU64); omega))
                   refine ar (ro_assign up_h) rfl <| ae9 (u4 rfl s2_46) (u4 rfl s8_46) (u4 rfl s9_46) (u4 rfl s10_46) (u4 rfl s14_46) (u4 rfl s15_46) up_h (u4 rfl s17_46) (u4 rfl s18_46) ?_; intro e_47 s2_47 s8_47 s9_47 s10_47 s14_47 s15_47 s16_47 s17_47 s18_47
                   refine then_n <| aw_seq <| at_ <| ar (ro_move s16_47) rfl <| ar (ro_geq up_h ev_c) rfl <| ae10 (u2 rfl s2_47) (u2 rfl s8_47) (u2 rfl s9_47) (u2 rfl s10_47) (u2 rfl s14_47) (u2 rfl s15_47) (u2 rfl s16_47) (u2 rfl s17_47) (u2 rfl s18_47) up_h ?_; intro e_48 s2_48 s8_48 s9_48 s10_48 s14_48 s15_48 s16_48 s17_48 s18_48 s120_48
                   refine then_n <| aw_case s120_48 (fun hq_49 => ?_) (fun hq_49 => ?_)
                   ·replace hq_49 := bt hq_49
                    (have hl2 := a2.less k1 k2 (.inl (by omega)); have hq2 : x - 1 = dq0 Y u v := a2.far (r := z + Y / 4294967296) (by omega) (by omega) (by omega) (by omega))
                    refine aw_exit <| block_miss rfl <| then_x <| block_hit <| then_n ⟨(s18_48).trans (by exact avu hq2), (s2_48).trans (s2_40).symm, (s8_48).trans (s8_40).symm, (s14_48).trans (s14_40).symm, (s15_48).trans (s15_40).symm, (s17_48).trans (s17_40).symm, ml_42⟩
                   replace hq_49 := bf hq_49
                   (have hl2 := a2.less k1 k2 (.inl (by omega)))
                   refine aw_skip <| block_n <| then_n <| ⟨⟨_, _⟩, ⟨s18_48, s16_48, (s2_48.trans s2_40.symm), (s8_48.trans s8_40.symm), (s9_48.trans s9_40.symm), (s10_48.trans s10_40.symm), (s14_48.trans s14_40.symm), (s15_48.trans s15_40.symm), (s17_48.trans s17_40.symm), ml_42, ?_⟩, ?_⟩
                   · (exact ⟨by omega, by omega, by omega, by omega, by omega⟩)
                   · ((try dsimp only); omega)
                  replace hq_43 := bf hq_43
                  refine al_ro' (ro_move (up_m rfl (u2 rfl s18_42))) ⟨_, rfl, hb_43⟩ rfl ?_
                  refine al_ro' (ro_move (u4 rfl s10_42)) ⟨_, rfl, (up_m rfl hb_43)⟩ rfl ?_
                  (refine al_ro' (ro_mulU (up_m rfl up_h) up_h ?_) ⟨_, rfl, (u2 rfl hb_43)⟩ rfl ?_; · ((first | unfold In64 | unfold InU64); omega))
                  refine al_ro' (ro_move (u2 rfl (u4 rfl s16_42))) ⟨_, rfl, (up_m rfl (u2 rfl hb_43))⟩ rfl ?_
                  (refine al_ro' (ro_mulU ev_c up_h ?_) ⟨_, rfl, (u4 rfl hb_43)⟩ rfl ?_; · ((first | unfold In64 | unfold InU64); omega))
                  refine al_ro' (ro_move (u8 rfl s14_42)) ⟨_, rfl, (up_m rfl (u4 rfl hb_43))⟩ rfl ?_
                  (refine al_ro' (ro_addU (up_m rfl up_h) up_h ?_) ⟨_, rfl, (u2 rfl (u4 rfl hb_43))⟩ rfl ?_; · ((first | unfold In64 | unfold InU64); omega))
                  refine al_ro' (ro_gtr (u4 rfl up_h) up_h) ⟨_, rfl, (up_m rfl (u2 rfl (u4 rfl hb_43)))⟩ rfl ?_
                  refine ar (ro_pickF (u8 rfl hb_43) up_h) rfl <| ae10 (u4 rfl (u8 rfl s2_42)) (u4 rfl (u8 rfl s8_42)) (u4 rfl (u8 rfl s9_42)) (u4 rfl (u8 rfl s10_42)) (u4 rfl (u8 rfl s14_42)) (u4 rfl (u8 rfl s15_42)) (u4 rfl (u8 rfl s16_42)) (u4 rfl (u8 rfl s17_42)) (u4 rfl (u8 rfl s18_42)) up_h ?_; intro e_50 s2_50 s8_50 s9_50 s10_50 s14_50 s15_50 s16_50 s17_50 s18_50 s113_50
                  refine then_n <| aw_case s113_50 (fun hq_51 => ?_) (fun hq_51 => ?_)
                  ·replace hq_51 := bt hq_51
                   (have hl2 := a2.less k1 k2 (.inr (by omega)))
                   refine aw_skip <| then_n <| aw_block <| aw_seq <| at_ <| ar (ro_move s18_50) rfl ?_
                   (refine ar (ro_subU up_h ev_c ?_) rfl ?_; · ((first | unfold In64 | unfold InU64); omega))
                   refine ar (ro_assign up_h) rfl <| ae9 (up_m rfl (u2 rfl s2_50)) (up_m rfl (u2 rfl s8_50)) (up_m rfl (u2 rfl s9_50)) (up_m rfl (u2 rfl s10_50)) (up_m rfl (u2 rfl s14_50)) (up_m rfl (u2 rfl s15_50)) (up_m rfl (u2 rfl s16_50)) (up_m rfl (u2 rfl s17_50)) up_h ?_; intro e_52 s2_52 s8_52 s9_52 s10_52 s14_52 s15_52 s16_52 s17_52 s18_52
                   refine then_n <| aw_seq <| at_ <| ar (ro_move s16_52) rfl <| ar (ro_move (up_m rfl s9_52)) rfl ?_
                   (refine ar (ro_addU (up_m rfl up_h) up_h ?_) rfl ?_; · ((first | unfold In64 | unfold InU64); omega))
                   refine ar (ro_assign up_h) rfl <| ae9 (u4 rfl s2_52) (u4 rfl s8_52) (u4 rfl s9_52) (u4 rfl s10_52) (u4 rfl s14_52) (u4 rfl s15_52) up_h (u4 rfl s17_52) (u4 rfl s18_52) ?_; intro e_53 s2_53 s8_53 s9_53 s10_53 s14_53 s15_53 s16_53 s17_53 s18_53
                   refine then_n <| aw_seq <| at_ <| ar (ro_move s16_53) rfl <| ar (ro_geq up_h ev_c) rfl <| ae10 (u2 rfl s2_53) (u2 rfl s8_53) (u2 rfl s9_53) (u2 rfl s10_53) (u2 rfl s14_53) (u2 rfl s15_53) (u2 rfl s16_53) (u2 rfl s17_53) (u2 rfl s18_53) up_h ?_; intro e_54 s2_54 s8_54 s9_54 s10_54 s14_54 s15_54 s16_54 s17_54 s18_54 s120_54
                   refine then_n <| aw_case s120_54 (fun hq_55 => ?_) (fun hq_55 => ?_)
                   ·replace hq_55 := bt hq_55
                    (have hq2 : x - 1 = dq0 Y u v := a2.far (r := z + Y / 4294967296) (by omega) (by omega) (by omega) (by omega))
                    refine aw_exit <| block_miss rfl <| then_x <| block_hit <| then_n ⟨(s18_54).trans (by exact avu hq2), (s2_54).trans (s2_40).symm, (s8_54).trans (s8_40).symm, (s14_54).trans (s14_40).symm, (s15_54).trans (s15_40).symm, (s17_54).trans (s17_40).symm, ml_42⟩
                   replace hq_55 := bf hq_55
                   refine aw_skip <| block_n <| then_n <| ⟨⟨_, _⟩, ⟨s18_54, s16_54, (s2_54.trans s2_40.symm), (s8_54.trans s8_40.symm), (s9_54.trans s9_40.symm), (s10_54.trans s10_40.symm), (s14_54.trans s14_40.symm), (s15_54.trans s15_40.symm), (s17_54.trans s17_40.symm), ml_42, ?_⟩, ?_⟩
                   · (exact ⟨by omega, by omega, by omega, by omega, by omega⟩)
                   · ((try dsimp only); omega)
                  replace hq_51 := bf hq_51
                  (have hq2 : x = dq0 Y u v := a2.done k1 k2 (by omega))
                  refine aw_exit <| then_x <| then_x <| block_hit <| then_n ⟨(s18_50).trans (by exact avu hq2), (s2_50).trans (s2_40).symm, (s8_50).trans (s8_40).symm, (s14_50).trans (s14_40).symm, (s15_50).trans (s15_40).symm, (s17_50).trans (s17_40).symm, ml_42⟩
              · rintro e_41 m_41 ⟨s18_41, k2_41, k8_41, k14_41, k15_41, k17_41, ml_41⟩
                have s2_41 := k2_41.trans s2_40
                have s8_41 := k8_41.trans s8_40
                have s14_41 := k14_41.trans s14_40
                have s15_41 := k15_41.trans s15_40
                have s17_41 := k17_41.trans s17_40
                refine aw_seq <| at_ <| ar (ro_move s15_41) rfl ?_
                (refine ar (ro_mulU up_h ev_c ?_) rfl ?_; · ((first | unfold In64 | unfold InU64); omega))
                refine ar (ro_move (u2 rfl s18_41)) rfl ?_
                (refine ar (ro_addU (up_m rfl up_h) up_h ?_) rfl ?_; · ((first | unfold In64 | unfold InU64); omega))
                refine ar (ro_move (u4 rfl s17_41)) rfl <| ar (ro_mul up_h ev_c) rfl <| ar (ro_move (u2 rfl (u4 rfl s14_41))) rfl <| ar (ro_add (up_m rfl up_h) up_h) rfl <| ar (ro_move (u8 rfl s18_41)) rfl <| ar (ro_move (up_m rfl (u8 rfl s2_41))) rfl <| ar (ro_mul (up_m rfl up_h) up_h) rfl <| ar (ro_sub (up_m rfl (u2 rfl up_h)) up_h) rfl <| ar (ro_move (u4 rfl (u8 rfl s8_41))) rfl <| ar (ro_shr (up_m rfl up_h) up_h (by omega) rfl) rfl ?_
                refine ar (ro_assign (u2 rfl (u8 rfl up_h))) rfl <| ar (ro_assign (up_m rfl up_h)) rfl <| ae2 (up_m rfl up_h) up_h ?_; clear s14_41 s15_41 s17_41 s18_41 s2_41 s8_41; intro e_56 s6_56 s7_56
                refine then_n <| aw_ret <| ret2 (.inr rfl) (by kernel_rfl) (resV_tmp s6_56) (resV_tmp s7_56) (.ro _ rfl) (.ro _ rfl) ?_
                clear s6_56 s7_56  ml_41
                (refine tup2 ?_ ?_; (first | rfl | (simp only [wrapU_eq]; omega)); rw [shp (by omega), h.hp]; refine congrArg (· / p) ?_; simp only [wrapU_eq]; unfold dR at hR ⊢; omega)
end Go.Proofs.Ytonjcljnpcmenaa

/- Contracts of chapter 1: the limit at a joint where a product is one word; vehicles, poses. No conditions on a program. -/
namespace Go.Proofs.Ytonjcljnpcmenaa
open Go Go.RowKit Go.Proofs
set_option linter.unusedSimpArgs false
set_option linter.unusedVariables false
theorem y22_az87 : (Try.prog.info? 87).bind (·.zero) = some (.agg #[.int .i64 0, .int .i64 0]) := by kernel_rfl
theorem y22_fl141_0 : FldIs Try.prog 141 0 0 true 4 := by unfold FldIs; kernel_rfl
theorem y22_fl26_2 : FldIs Try.prog 26 2 2 false 1 := by unfold FldIs; kernel_rfl
theorem y22_fl87_0 : FldIs Try.prog 87 0 0 false 1 := by unfold FldIs; kernel_rfl
theorem y22_fl87_1 : FldIs Try.prog 87 1 1 false 1 := by unfold FldIs; kernel_rfl
theorem y22_hcf104 : ∀ args w, (callFunc 104 args).run Try.prog w = .ok (.enter 104 args) w := fun _ _ => by kernel_rfl
theorem y22_hcf137 : ∀ args w, (callFunc 137 args).run Try.prog w = .ok (.enter 137 args) w := fun _ _ => by kernel_rfl
theorem y22_hcf138 : ∀ args w, (callFunc 138 args).run Try.prog w = .ok (.enter 138 args) w := fun _ _ => by kernel_rfl
theorem y22_hcf139 : ∀ args w, (callFunc 139 args).run Try.prog w = .ok (.enter 139 args) w := fun _ _ => by kernel_rfl
theorem y22_sl23 : SlIs Try.prog 23 87 2 16 (.agg #[.int .i64 0, .int .i64 0]) := ⟨by kernel_rfl, by kernel_rfl, by kernel_rfl⟩
theorem y22_sz87 : (Try.prog.info? 87).map (·.size) = some 2 := by kernel_rfl
theorem y22_ty23 : TyIs Try.prog 23 false 1 := ⟨by kernel_rfl, by kernel_rfl⟩
theorem y22_ty3 : TyIs Try.prog 3 false 1 := ⟨by kernel_rfl, by kernel_rfl⟩
theorem y22_ty87 : TyIs Try.prog 87 true 2 := ⟨by kernel_rfl, by kernel_rfl⟩

theorem mul64_low (x y : Int) (hx : InU64 x) (hy : InU64 y) (h : InU64 (x * y)) : FnOk Try.prog 138 [uA x, uA y] (fun q => q = .tuple [uA 0, uA (x * y)]) :=
  (mul64_ok x y hx hy).mono fun q hq => by
    unfold InU64 at h
    rw [hq, show x * y / 18446744073709551616 = 0 by omega, show x * y % 18446744073709551616 = x * y by omega]
def sgnV (n : Int) : Int := if n < 0 then -1 else if 0 < n then 1 else 0
/-- What side and cant hold. -/
def helV (l : Lin) (s : Int) (j : Nat) : Int := 2000 * s + sgnV (benN l j) * ((l.bs.getD (j - 1) default).cant + (l.bs.getD j default).cant) * 9810
/-- The limit at a joint. -/
def limU (l : Lin) (s : Int) (j : Nat) : Int := helV l s j * ((l.bs.getD (j - 1) default).len + (l.bs.getD j default).len) * benD l j
def limV (l : Lin) (s : Int) (j : Nat) : Int := if benN l j = 0 then 20000000000 else if helV l s j < 0 then 0 else min (limU l s j / (2 * 2000 * max (benN l j) (-benN l j))) 20000000000
theorem ben_bd {l : Lin} (h : Rgt l) {j : Nat} (hj : 1 ≤ j ∧ j + 2 ≤ l.js.length) : (benN l j).natAbs ≤ 2400000000 ∧ 1000000 ≤ benD l j ∧ benD l j ≤ 900000000 := by
  have hjs := h.js
  have j1 := h.jnt (j - 1) (by omega)
  have j2 := h.jnt j (by omega)
  have j3 := h.jnt (j + 1) (by omega)
  have b1 := h.bea (j - 1) (by omega)
  have b2 := h.bea j (by omega)
  have m1 := mul_in (x := (l.js.getD (j + 1) default).acr - (l.js.getD j default).acr) (y := (l.bs.getD (j - 1) default).len) 40000 30000 (by omega) (by omega)
  have m2 := mul_in (x := (l.js.getD j default).acr - (l.js.getD (j - 1) default).acr) (y := (l.bs.getD j default).len) 40000 30000 (by omega) (by omega)
  have m3 := mul_in (x := (l.bs.getD (j - 1) default).len) (y := (l.bs.getD j default).len) 30000 30000 (by omega) (by omega)
  have m4 : (1000 : Int) * 1000 ≤ (l.bs.getD (j - 1) default).len * (l.bs.getD j default).len := Int.mul_le_mul b1.1 b2.1 (by omega) (by omega)
  unfold benN benD
  omega
theorem hel_bd {l : Lin} (h : Rgt l) {j : Nat} (hj : 1 ≤ j ∧ j + 2 ≤ l.js.length) {s : Int} (hs : 0 ≤ s ∧ s ≤ 5000) : (sgnV (benN l j) * ((l.bs.getD (j - 1) default).cant + (l.bs.getD j default).cant)).natAbs ≤ 600 ∧ (helV l s j).natAbs ≤ 15886000 := by
  have hjs := h.js
  have b1 := h.bea (j - 1) (by omega)
  have b2 := h.bea j (by omega)
  have m1 := mul_in (x := sgnV (benN l j)) (y := (l.bs.getD (j - 1) default).cant + (l.bs.getD j default).cant) 1 600 (by unfold sgnV; split; decide; split <;> decide) (by omega)
  unfold helV
  omega
set_option maxRecDepth 100000 in
set_option maxHeartbeats 4000000 in
theorem limit_low (l : Lin) (h : Rgt l) (s : Int) (hs : 0 ≤ s ∧ s ≤ 5000) (j : Nat) (hj : 1 ≤ j ∧ j + 2 ≤ l.js.length) (hu : limU l s j < 18446744073709551616) : FnOk Try.prog 85 [tkA l, mA s, mA j] (fun q => q = mA (limV l s j)) := by
  refine fnOk_of (fn := Try.f85) 88 (by kernel_rfl) rfl (by kernel_rfl) (Nat.le_of_ble_eq_true rfl) ?_
  intro e_0 m_0 hA hm_0
  have s0_0 : evA e_0 (.tmp 0) = _ := hA 0 _ rfl
  have s1_0 : evA e_0 (.tmp 1) = _ := hA 1 _ rfl
  have s2_0 : evA e_0 (.tmp 2) = _ := hA 2 _ rfl
  have ml_0 : m_0.length = 0 := by rw [hm_0]; rfl
  clear hA hm_0
  have hn1 := h.n1; have hn0 := h.n0; have hjs := h.js; have b1 := h.bea (j - 1) (by omega); have b2 := h.bea j (by omega); obtain ⟨e1, e2, e3⟩ := ben_bd h hj; obtain ⟨e4, e5⟩ := hel_bd h hj hs
  refine aw_seq <| at_ <| ar (ro_assign ev_c) rfl <| ae3 (up_m rfl s0_0) (up_m rfl s1_0) (up_m rfl s2_0) ?_; clear s0_0 s1_0 s2_0; intro e_1 s0_1 s1_1 s2_1
  refine then_n <| aw_seq <| at_ <| ar (ro_move s0_1) rfl <| ar (ro_move (up_m rfl s2_1)) rfl <| ar (ro_call (evL_cons (up_m rfl up_h) (evL_cons up_h evL_nil)) rfl (bend_ok l h j hj) y22_hcf104) rfl <| ar (ro_move up_h) rfl <| ar (ro_extract up_h rfl) rfl <| ar (ro_extract (up_m rfl up_h) rfl) rfl <| ar (ro_assign (up_m rfl up_h)) rfl <| ar (ro_assign (up_m rfl up_h)) rfl <| ae5 (u8 rfl s0_1) (u8 rfl s1_1) (u8 rfl s2_1) (up_m rfl up_h) up_h ?_; clear s0_1 s1_1 s2_1; intro e_2 s0_2 s1_2 s2_2 s7_2 s8_2
  refine then_n <| aw_seq <| aw_seq <| at_ <| ar (ro_move s7_2) rfl <| ar (ro_eql up_h ev_c) rfl ?_
  refine ae6 (u2 rfl s0_2) (u2 rfl s1_2) (u2 rfl s2_2) (u2 rfl s7_2) (u2 rfl s8_2) up_h ?_; clear s0_2 s1_2 s2_2 s7_2 s8_2; intro e_3 s0_3 s1_3 s2_3 s7_3 s8_3 s24_3
  refine then_n <| aw_case s24_3 (fun hq_4 => ?_) (fun hq_4 => ?_)
  ·replace hq_4 := bt hq_4
   refine aw_seq <| at_ <| ar (ro_assign ev_c) rfl <| ae1 up_h ?_; clear s0_3 s1_3 s24_3 s2_3 s7_3 s8_3; intro e_5 s6_5
   refine then_n <| aw_ret <| then_r <| ret1 (.inr rfl) (by kernel_rfl) (resV_tmp s6_5) (.ro _ rfl) ?_
   clear s6_5  ml_0
   (rw [limV, if_pos (by assumption)])
  replace hq_4 := bf hq_4
  refine aw_skip <| then_n <| aw_seq <| aw_drawK 20 2 ml_0 (by kernel_rfl) (by kernel_rfl) (by kernel_rfl) (by kernel_rfl) (fun m_6 hm_6 => ?_)
  have mo0_6 : m_6[0]? = _ := m_room_g hm_6 ml_0 0 rfl rfl
  have mo1_6 : m_6[1]? = _ := m_room_g hm_6 ml_0 1 rfl rfl
  have ml_6 : _ = 2 := m_room_l (K := 2) hm_6 ml_0
  clear hm_6 ml_0
  refine dh_ro (fun M_ hM_ => (ro_move s0_3)) trivial ?_
  refine dh_ro (fun M_ hM_ => (ro_nilR up_h)) trivial ?_
  refine dh_ro (fun M_ hM_ => (ro_eq (ro_fld_ref y22_fl141_0 rfl up_h) (by simp only [pS, Value.cells, Nat.reduceAdd, jnE, beE, Int.toNat_natCast, toNat_suc, toNat_pre] <;> rfl))) trivial ?_
  refine dh_ro (fun M_ hM_ => (ro_eq (ro_fld_ref y22_fl26_2 rfl up_h) (by simp only [pS, Value.cells, Nat.reduceAdd, jnE, beE, Int.toNat_natCast, toNat_suc, toNat_pre] <;> rfl))) trivial ?_
  refine dh_ro (fun M_ hM_ => (ro_eq (ro_ld_ref y22_ty23 rfl up_h (nle rfl)) (by simp only [pS, Value.cells, Nat.reduceAdd, jnE, beE, Int.toNat_natCast, toNat_suc, toNat_pre] <;> rfl))) trivial ?_
  refine dh_ro (fun M_ hM_ => (ro_move (up_m rfl (u4 rfl s2_3)))) trivial ?_
  (refine dh_ro (fun M_ hM_ => (ro_sub' up_h ev_c ?_)) trivial ?_; · ((first | unfold In64 | unfold InU64); omega))
  refine dh_ro (fun M_ hM_ => (ro_eq (ro_ix y22_sl23 (u2 rfl up_h) up_h (by omega) (by first | (refine idx_map ?_; first | omega | (simp only [lnS]; omega)) | (refine idx_mapI ?_; first | omega | (simp only [lnS]; omega)) | (refine idx_mapN ?_; first | omega | (simp only [lnS]; omega)) | rfl)) (by simp only [pS, Value.cells, Nat.reduceAdd, jnE, beE, Int.toNat_natCast, toNat_suc, toNat_pre] <;> rfl))) trivial ?_
  refine dh_ro (fun M_ hM_ => (ro_eq (ro_ld_ref y22_ty87 rfl up_h (nle rfl)) (by simp only [pS, Value.cells, Nat.reduceAdd, jnE, beE, Int.toNat_natCast, toNat_suc, toNat_pre] <;> rfl))) trivial ?_
  refine dh_ro (fun M_ hM_ => (ro_move (up_m rfl (u8 rfl s0_3)))) trivial ?_
  refine dh_ro (fun M_ hM_ => (ro_nilR up_h)) trivial ?_
  refine dh_ro (fun M_ hM_ => (ro_eq (ro_fld_ref y22_fl141_0 rfl up_h) (by simp only [pS, Value.cells, Nat.reduceAdd, jnE, beE, Int.toNat_natCast, toNat_suc, toNat_pre] <;> rfl))) trivial ?_
  refine dh_ro (fun M_ hM_ => (ro_eq (ro_fld_ref y22_fl26_2 rfl up_h) (by simp only [pS, Value.cells, Nat.reduceAdd, jnE, beE, Int.toNat_natCast, toNat_suc, toNat_pre] <;> rfl))) trivial ?_
  refine dh_ro (fun M_ hM_ => (ro_eq (ro_ld_ref y22_ty23 rfl up_h (nle rfl)) (by simp only [pS, Value.cells, Nat.reduceAdd, jnE, beE, Int.toNat_natCast, toNat_suc, toNat_pre] <;> rfl))) trivial ?_
  refine dh_ro (fun M_ hM_ => (ro_move (u2 rfl (u4 rfl (u8 rfl s2_3))))) trivial ?_
  refine dh_ro (fun M_ hM_ => (ro_eq (ro_ix y22_sl23 (up_m rfl up_h) up_h (by omega) (by first | (refine idx_map ?_; first | omega | (simp only [lnS]; omega)) | (refine idx_mapI ?_; first | omega | (simp only [lnS]; omega)) | (refine idx_mapN ?_; first | omega | (simp only [lnS]; omega)) | rfl)) (by simp only [pS, Value.cells, Nat.reduceAdd, jnE, beE, Int.toNat_natCast, toNat_suc, toNat_pre] <;> rfl))) trivial ?_
  refine dh_ro (fun M_ hM_ => (ro_eq (ro_ld_ref y22_ty87 rfl up_h (nle rfl)) (by simp only [pS, Value.cells, Nat.reduceAdd, jnE, beE, Int.toNat_natCast, toNat_suc, toNat_pre] <;> rfl))) trivial ?_
  refine dh_nw (0) (fun M_ hM_ => (nw_alloc y22_az87 rfl)) trivial mo0_6 rfl trivial trivial (fun m_7 hm_7 => ?_)
  have mo0_7 := m_set hm_7 mo0_6
  simp only [pS, Value.cells, Nat.reduceAdd, jnE, beE, Int.toNat_natCast, toNat_suc, toNat_pre] at mo0_7
  have mo1_7 := m_set_o hm_7 mo1_6 (by decide)
  have ml_7 := m_set_l hm_7 ml_6
  clear hm_7 mo0_6 mo1_6
  refine dh_nw (1) (fun M_ hM_ => (nw_alloc y22_az87 rfl)) trivial mo1_7 rfl ⟨.inl (by simp <;> omega), trivial⟩ ⟨.inl (by simp <;> omega), trivial⟩ (fun m_8 hm_8 => ?_)
  have mo1_8 := m_set hm_8 mo1_7
  simp only [pS, Value.cells, Nat.reduceAdd, jnE, beE, Int.toNat_natCast, toNat_suc, toNat_pre] at mo1_8
  have mo0_8 := m_set_o hm_8 mo0_7 (by decide)
  have ml_8 := m_set_l hm_8 ml_7
  clear hm_8 mo0_7 mo1_7
  refine dh_set (0) (fun M_ hM_ => (se_store (up_m rfl up_h) (u2 rfl (u8 rfl up_h)) rfl rfl (agr hM_ mo0_8 (by simp)) y22_sz87 rfl (nle rfl))) trivial ⟨.inr (wt_one 19 17 (by kernel_rfl)), ⟨.inl (by simp <;> omega), trivial⟩⟩ ⟨.inr (wt_one 19 17 (by kernel_rfl)), ⟨.inl (by simp <;> omega), trivial⟩⟩ (fun m_9 hm_9 => ?_)
  have mo0_9 := m_set hm_9 mo0_8
  simp only [pS, Value.cells, Nat.reduceAdd, jnE, beE, Int.toNat_natCast, toNat_suc, toNat_pre] at mo0_9
  have mo1_9 := m_set_o hm_9 mo1_8 (by decide)
  have ml_9 := m_set_l hm_9 ml_8
  clear hm_9 mo1_8 mo0_8
  refine dh_nil rfl ?_
  refine al_stm (st_store (up_n up_h) (up_n (u2 rfl up_h)) rfl rfl mo1_9 y22_sz87 rfl (nle rfl)) trivial rfl (fun m_10 hm_10 => ?_)
  have mo1_10 := m_set hm_10 mo1_9
  simp only [pS, Value.cells, Nat.reduceAdd, jnE, beE, Int.toNat_natCast, toNat_suc, toNat_pre] at mo1_10
  have mo0_10 := m_set_o hm_10 mo0_9 (by decide)
  have ml_10 := m_set_l hm_10 ml_9
  clear hm_10 mo0_9 mo1_9
  refine ae5 (up_n (up_n (up_m rfl (u2 rfl (u16 rfl s1_3))))) (up_n (up_n (up_m rfl (u2 rfl (u16 rfl s7_3))))) (up_n (up_n (up_m rfl (u2 rfl (u16 rfl s8_3))))) (up_n (up_n (up_m rfl up_h))) (up_n (up_n up_h)) ?_; clear s0_3 s1_3 s24_3 s2_3 s7_3 s8_3; intro e_11 s1_11 s7_11 s8_11 s9_11 s10_11
  refine then_n <| aw_seq <| at_ <| ar (ro_assign ev_c) rfl <| ae6 (up_m rfl s1_11) (up_m rfl s7_11) (up_m rfl s8_11) (up_m rfl s9_11) (up_m rfl s10_11) up_h ?_; clear s10_11 s1_11 s7_11 s8_11 s9_11; intro e_12 s1_12 s7_12 s8_12 s9_12 s10_12 s11_12
  refine then_n <| aw_seq <| aw_draw 14 (by kernel_rfl) (by kernel_rfl) (by kernel_rfl) (by kernel_rfl) ?_
  refine dr (ro_move s11_12) rfl <| dr (ro_move (up_m rfl s1_12)) rfl ?_
  (refine dr (ro_mul' (up_m rfl up_h) up_h ?_) rfl ?_; · ((first | unfold In64 | unfold InU64); omega))
  refine dr (ro_move (up_m rfl (u2 rfl s7_12))) rfl <| dr (ro_call (evL_cons up_h (evL_cons ev_c evL_nil)) rfl ((compare_ok _ _).mono (fun q h => show q = mA (sgnV (benN l j)) from h)) y22_hcf137) rfl ?_
  refine dr (ro_fld_ptr y22_fl87_1 rfl (up_m rfl (u4 rfl s9_12))) rfl <| dr (ro_eq (ro_ld_ptr y22_ty3 rfl mo0_10 up_h (nle rfl)) (by simp only [pS, Value.cells, Nat.reduceAdd, jnE, beE, Int.toNat_natCast, toNat_suc, toNat_pre] <;> rfl)) rfl ?_
  refine dr (ro_fld_ptr y22_fl87_1 rfl (up_m rfl (u2 rfl (u4 rfl s10_12)))) rfl <| dr (ro_eq (ro_ld_ptr y22_ty3 rfl mo1_10 up_h (nle rfl)) (by simp only [pS, Value.cells, Nat.reduceAdd, jnE, beE, Int.toNat_natCast, toNat_suc, toNat_pre] <;> rfl)) rfl ?_
  (refine dr (ro_add' (u2 rfl up_h) up_h ?_) rfl ?_; · ((first | unfold In64 | unfold InU64); omega))
  (refine dr (ro_mul' (up_m rfl (u4 rfl up_h)) up_h ?_) rfl ?_; · ((first | unfold In64 | unfold InU64); omega))
  (refine dr (ro_mul' up_h ev_c ?_) rfl ?_; · ((first | unfold In64 | unfold InU64); omega))
  (refine dr (ro_add' (up_m rfl (u8 rfl up_h)) up_h ?_) rfl ?_; · ((first | unfold In64 | unfold InU64); omega))
  refine dr (ro_assign up_h) rfl <| ds_nil <| ae6 (u2 rfl (u4 rfl (u8 rfl s7_12))) (u2 rfl (u4 rfl (u8 rfl s8_12))) (u2 rfl (u4 rfl (u8 rfl s9_12))) (u2 rfl (u4 rfl (u8 rfl s10_12))) (u2 rfl (u4 rfl (u8 rfl s11_12))) up_h ?_; clear s10_12 s11_12 s1_12 s7_12 s8_12 s9_12; intro e_13 s7_13 s8_13 s9_13 s10_13 s11_13 s12_13
  refine then_n <| aw_seq <| aw_seq <| at_ <| ar (ro_move s12_13) rfl <| ar (ro_lss up_h ev_c) rfl <| ae7 (u2 rfl s7_13) (u2 rfl s8_13) (u2 rfl s9_13) (u2 rfl s10_13) (u2 rfl s11_13) (u2 rfl s12_13) up_h ?_; clear s10_13 s11_13 s12_13 s7_13 s8_13 s9_13; intro e_14 s7_14 s8_14 s9_14 s10_14 s11_14 s12_14 s56_14
  refine then_n <| aw_case s56_14 (fun hq_15 => ?_) (fun hq_15 => ?_)
  ·replace hq_15 := bt hq_15
   refine aw_seq <| at_ <| ar (ro_assign ev_c) rfl <| ae1 up_h ?_; clear s10_14 s11_14 s12_14 s56_14 s7_14 s8_14 s9_14; intro e_16 s6_16
   refine then_n <| aw_ret <| then_r <| ret1 (.inr rfl) (by kernel_rfl) (resV_tmp s6_16) (.ro _ rfl) ?_
   clear s6_16 mo1_10 mo0_10 ml_10
   (rw [limV, if_neg (by assumption), if_pos (by assumption)])
  replace hq_15 := bf hq_15
  (have hh : 0 ≤ (2000 * s + sgnV (benN l j) * ((l.bs.getD (j - 1) default).cant + (l.bs.getD j default).cant) * 9810) := (by omega); have m1 := mul_in (x := (2000 * s + sgnV (benN l j) * ((l.bs.getD (j - 1) default).cant + (l.bs.getD j default).cant) * 9810)) (y := ((l.bs.getD (j - 1) default).len + (l.bs.getD j default).len)) 15886000 60000 e5 (by omega); have n1 := Int.mul_nonneg hh (show 0 ≤ ((l.bs.getD (j - 1) default).len + (l.bs.getD j default).len) by omega); have vv1 : InU64 ((2000 * s + sgnV (benN l j) * ((l.bs.getD (j - 1) default).cant + (l.bs.getD j default).cant) * 9810) * ((l.bs.getD (j - 1) default).len + (l.bs.getD j default).len)) := ⟨n1, by omega⟩; have vv2 : InU64 (benD l j) := ⟨by omega, by omega⟩; have vv3 : InU64 ((2000 * s + sgnV (benN l j) * ((l.bs.getD (j - 1) default).cant + (l.bs.getD j default).cant) * 9810) * ((l.bs.getD (j - 1) default).len + (l.bs.getD j default).len) * benD l j) := ⟨Int.mul_nonneg n1 (by omega), hu⟩; have vv4 : InU64 (2 * 2000 * max (benN l j) (-benN l j)) := ⟨by omega, by omega⟩; have vv5 : 0 < 2 * 2000 * max (benN l j) (-benN l j) := (by omega); have vv6 := Int.ediv_nonneg vv3.1 (Int.le_of_lt vv5); unfold InU64 at vv1 vv2 vv4)
  refine aw_skip <| then_n <| aw_seq <| at_ <| ar (ro_move s12_14) rfl <| ar (ro_fld_ptr y22_fl87_0 rfl (up_m rfl s9_14)) rfl <| ar (ro_eq (ro_ld_ptr y22_ty3 rfl mo0_10 up_h (nle rfl)) (by simp only [pS, Value.cells, Nat.reduceAdd, jnE, beE, Int.toNat_natCast, toNat_suc, toNat_pre] <;> rfl)) rfl ?_
  refine ar (ro_fld_ptr y22_fl87_0 rfl (up_m rfl (u2 rfl s10_14))) rfl <| ar (ro_eq (ro_ld_ptr y22_ty3 rfl mo1_10 up_h (nle rfl)) (by simp only [pS, Value.cells, Nat.reduceAdd, jnE, beE, Int.toNat_natCast, toNat_suc, toNat_pre] <;> rfl)) rfl ?_
  (refine ar (ro_add' (u2 rfl up_h) up_h ?_) rfl ?_; · ((first | unfold In64 | unfold InU64); omega))
  (refine ar (ro_mul' (up_m rfl (u4 rfl up_h)) up_h ?_) rfl ?_; · ((first | unfold In64 | unfold InU64); omega))
  (refine ar (ro_cvU up_h (by kernel_rfl) (by kernel_rfl) ?_) rfl ?_; · ((first | unfold In64 | unfold InU64); omega))
  refine ar (ro_move (u8 rfl s8_14)) rfl ?_
  (refine ar (ro_cvU up_h (by kernel_rfl) (by kernel_rfl) ?_) rfl ?_; · ((first | unfold In64 | unfold InU64); omega))
  refine ar (ro_call (evL_cons (u2 rfl up_h) (evL_cons up_h evL_nil)) rfl (mul64_low _ _ vv1 vv2 vv3) y22_hcf138) rfl <| ar (ro_move up_h) rfl <| ar (ro_extract up_h rfl) rfl <| ar (ro_extract (up_m rfl up_h) rfl) rfl <| ar (ro_assign (up_m rfl up_h)) rfl <| ar (ro_assign (up_m rfl up_h)) rfl <| ae4 (u16 rfl s7_14) (u16 rfl s11_14) (up_m rfl up_h) up_h ?_; clear s10_14 s11_14 s12_14 s56_14 s7_14 s8_14 s9_14; intro e_17 s7_17 s11_17 s13_17 s14_17
  refine then_n <| aw_seq <| at_ <| ar (ro_move s13_17) rfl <| ar (ro_move (up_m rfl s14_17)) rfl <| ar (ro_move (u2 rfl s11_17)) rfl ?_
  (refine ar (ro_mul' ev_c up_h ?_) rfl ?_; · ((first | unfold In64 | unfold InU64); omega))
  refine ar (ro_move (u4 rfl s7_17)) rfl <| ar (ro_move (up_m rfl (u4 rfl s7_17))) rfl ?_
  (refine ar (ro_neg' up_h ?_) rfl ?_; · ((first | unfold In64 | unfold InU64); omega))
  refine ar (ro_max (u2 rfl up_h) up_h) rfl ?_
  (refine ar (ro_mul' (u4 rfl up_h) up_h ?_) rfl ?_; · ((first | unfold In64 | unfold InU64); omega))
  (refine ar (ro_cvU up_h (by kernel_rfl) (by kernel_rfl) ?_) rfl ?_; · ((first | unfold In64 | unfold InU64); omega))
  refine ar (ro_call (evL_cons (up_m rfl (u8 rfl up_h)) (evL_cons (u8 rfl up_h) (evL_cons up_h evL_nil))) rfl (div64_low _ _ vv3 vv4 vv5) y22_hcf139) rfl <| ar (ro_move up_h) rfl <| ar (ro_extract up_h rfl) rfl <| ar (ro_extract (up_m rfl up_h) rfl) rfl <| ar (ro_assign (up_m rfl up_h)) rfl <| ar (ro_assign (up_m rfl up_h)) rfl <| ae1 (up_m rfl up_h) ?_; clear s11_17 s13_17 s14_17 s7_17; intro e_18 s15_18
  refine then_n <| aw_seq <| at_ <| ar (ro_move s15_18) rfl <| ar (ro_min up_h ev_c) rfl ?_
  (refine ar (ro_cvI up_h (by kernel_rfl) (by kernel_rfl) ?_) rfl ?_; · ((first | unfold In64 | unfold InU64); omega))
  refine ar (ro_assign up_h) rfl <| ae1 up_h ?_; clear s15_18; intro e_19 s6_19
  refine then_n <| aw_ret <| ret1 (.inr rfl) (by kernel_rfl) (resV_tmp s6_19) (.ro _ rfl) ?_
  clear s6_19 mo1_10 mo0_10 ml_10
  (rw [limV, if_neg (by assumption), if_neg (by assumption)]; rfl)
end Go.Proofs.Ytonjcljnpcmenaa

/- Contracts of chapter 1: the limit at a joint of any line; vehicles, poses opened. No conditions on a program. -/
namespace Go.Proofs.Ytonjcljnpcmenaa
open Go Go.RowKit Go.Proofs
set_option linter.unusedSimpArgs false
set_option linter.unusedVariables false
theorem y23_fl28_0 : FldIs Try.prog 28 0 0 false 1 := by unfold FldIs; kernel_rfl
theorem y23_fl28_1 : FldIs Try.prog 28 1 1 false 1 := by unfold FldIs; kernel_rfl
theorem y23_fl28_2 : FldIs Try.prog 28 2 2 false 1 := by unfold FldIs; kernel_rfl
theorem y23_hcf76 : ∀ args w, (callFunc 76 args).run Try.prog w = .ok (.enter 76 args) w := fun _ _ => by kernel_rfl
theorem y23_hcf77 : ∀ args w, (callFunc 77 args).run Try.prog w = .ok (.enter 77 args) w := fun _ _ => by kernel_rfl
theorem y23_hcf78 : ∀ args w, (callFunc 78 args).run Try.prog w = .ok (.enter 78 args) w := fun _ _ => by kernel_rfl
theorem y23_hcf83 : ∀ args w, (callFunc 83 args).run Try.prog w = .ok (.enter 83 args) w := fun _ _ => by kernel_rfl
theorem y23_hcf84 : ∀ args w, (callFunc 84 args).run Try.prog w = .ok (.enter 84 args) w := fun _ _ => by kernel_rfl
theorem y23_hcf85 : ∀ args w, (callFunc 85 args).run Try.prog w = .ok (.enter 85 args) w := fun _ _ => by kernel_rfl
theorem y23_hcf94 : ∀ args w, (callFunc 94 args).run Try.prog w = .ok (.enter 94 args) w := fun _ _ => by kernel_rfl
theorem y23_hcf97 : ∀ args w, (callFunc 97 args).run Try.prog w = .ok (.enter 97 args) w := fun _ _ => by kernel_rfl
theorem y23_hcf98 : ∀ args w, (callFunc 98 args).run Try.prog w = .ok (.enter 98 args) w := fun _ _ => by kernel_rfl
theorem y23_sl185 : SlIs Try.prog 185 34 1 8 (.int .i64 0) := ⟨by kernel_rfl, by kernel_rfl, by kernel_rfl⟩
theorem y23_ty26 : TyIs Try.prog 26 true 4 := ⟨by kernel_rfl, by kernel_rfl⟩
theorem y23_ty28 : TyIs Try.prog 28 true 3 := ⟨by kernel_rfl, by kernel_rfl⟩
theorem y23_ty3 : TyIs Try.prog 3 false 1 := ⟨by kernel_rfl, by kernel_rfl⟩

theorem firstE_0 (e : Int) : firstE [0, e] = e := by
  by_cases h : e = 0 <;> simp [firstE, h]
def sidE (s : Int) : Int := unlessE (withinB s 0 5000) 2
theorem sidE_z {s : Int} : sidE s = 0 ↔ 0 ≤ s ∧ s ≤ 5000 := by
  unfold sidE unlessE; rw [← withinB_iff]
  cases withinB s 0 5000 <;> simp
def limE (l : Lin) (s j : Int) : Int := if sidE s = 0 then misE j 1 (l.js.length - 2) else sidE s
set_option maxRecDepth 100000 in
set_option maxHeartbeats 4000000 in
theorem limitAt_good (l : Lin) (hl : Sho l) (hg : (linM l).2 = 0) (s j : Int) (hL : 0 ≤ s ∧ s ≤ 5000 → ∀ n : Nat, 1 ≤ n ∧ n + 2 ≤ l.js.length → FnOk Try.prog 85 [tkA l, mA s, mA n] (fun q => q = mA (limV l s n))) : FnOk Try.prog 23 [lnA l, mA s, mA j] (fun q => q = .tuple [mA (if limE l s j = 0 then limV l s j.toNat else 0), mA (limE l s j)]) := by
  refine fnOk_of (fn := Try.f23) 34 (by kernel_rfl) rfl (by kernel_rfl) (Nat.le_of_ble_eq_true rfl) ?_
  intro e_0 m_0 hA hm_0
  have s0_0 : evA e_0 (.tmp 0) = _ := hA 0 _ rfl
  have s1_0 : evA e_0 (.tmp 1) = _ := hA 1 _ rfl
  have s2_0 : evA e_0 (.tmp 2) = _ := hA 2 _ rfl
  have ml_0 : m_0.length = 0 := by rw [hm_0]; rfl
  clear hA hm_0
  have h := rgt_of hg; have hn1 := h.n1; have hn0 := h.n0; have hjs := h.js
  refine aw_seq <| at_ <| al_stm (st_box s0_0 rfl ml_0) trivial rfl (fun m_1 hm_1 => ?_)
  have mo0_1 := m_push hm_1 ml_0
  have ml_1 := m_push_l hm_1 ml_0
  have ml_1 : _ = 1 := ml_1
  clear hm_1
  refine ar (ro_assign ev_c) rfl <| ar (ro_assign ev_c) rfl <| ae3 (up_m rfl (u2 rfl s1_0)) (up_m rfl (u2 rfl s2_0)) (u2 rfl up_h) ?_; clear s0_0 s1_0 s2_0; intro e_2 s1_2 s2_2 s3_2
  refine then_n <| aw_seq <| at_ <| ar (ro_eq (ro_ld_ptr y23_ty26 rfl mo0_1 s3_2 (nle rfl)) (by simp only [pS, Value.cells, Nat.reduceAdd] <;> rfl)) rfl ?_
  refine ar (ro_call (evL_cons up_h evL_nil) rfl (yOpen_good l hl hg) y23_hcf76) rfl <| ar (ro_move up_h) rfl <| ar (ro_extract up_h rfl) rfl <| ar (ro_extract (up_m rfl up_h) rfl) rfl <| ar (ro_assign (up_m rfl up_h)) rfl <| ar (ro_assign (up_m rfl up_h)) rfl <| ae4 (up_m rfl (u2 rfl (u4 rfl s1_2))) (up_m rfl (u2 rfl (u4 rfl s2_2))) (up_m rfl up_h) up_h ?_; clear s1_2 s2_2 s3_2; intro e_3 s1_3 s2_3 s8_3 s9_3
  refine then_n <| aw_seq <| aw_seq <| at_ <| ar (ro_move s9_3) rfl <| ar (ro_move (up_m rfl s1_3)) rfl <| ar (ro_call (evL_cons up_h evL_nil) rfl (sideErr_ok _) y23_hcf83) rfl <| ar (ro_lit y23_sl185 (evP_cons (u2 rfl up_h) (evP_cons up_h evP_nil)) rfl rfl rfl rfl) rfl <| ar (ro_call (evL_cons up_h evL_nil) rfl ((yFirst_ok [_, _] (by simp)).mono (fun q h => h.trans (show mA (firstE [0, unlessE (withinB s 0 5000) 2]) = mA (sidE s) from congrArg mA (firstE_0 _)))) y23_hcf77) rfl ?_
  refine ar (ro_assign up_h) rfl <| ae4 (u2 rfl (u4 rfl s1_3)) (u2 rfl (u4 rfl s2_3)) (u2 rfl (u4 rfl s8_3)) up_h ?_; clear s1_3 s2_3 s8_3 s9_3; intro e_4 s1_4 s2_4 s8_4 s9_4
  refine then_n <| aw_seq <| at_ <| ar (ro_move s9_4) rfl <| ar (ro_neq up_h ev_c) rfl <| ae5 (u2 rfl s1_4) (u2 rfl s2_4) (u2 rfl s8_4) (u2 rfl s9_4) up_h ?_; clear s1_4 s2_4 s8_4 s9_4; intro e_5 s1_5 s2_5 s8_5 s9_5 s22_5
  refine then_n <| aw_case s22_5 (fun hq_6 => ?_) (fun hq_6 => ?_)
  ·replace hq_6 := bnt hq_6
   refine aw_seq <| at_ <| ar (ro_move s9_5) rfl <| ar (ro_assign ev_c) rfl <| ar (ro_assign (up_m rfl up_h)) rfl <| ae2 (up_m rfl up_h) up_h ?_; clear s1_5 s22_5 s2_5 s8_5 s9_5; intro e_7 s6_7 s7_7
   refine then_n <| aw_ret <| then_r <| ret2 (.inr rfl) (by kernel_rfl) (resV_tmp s6_7) (resV_tmp s7_7) (.ro _ rfl) (.ro _ rfl) ?_
   clear s6_7 s7_7 mo0_1 ml_1
   (have hs : ¬ sidE s = 0 := (by assumption); simp [limE, hs])
  replace hq_6 := bnf hq_6
  (have hs : sidE s = 0 := (by assumption); have hs2 := sidE_z.1 hs)
  refine aw_skip <| then_n <| aw_seq <| aw_seq <| at_ <| ar (ro_move s8_5) rfl <| ar (ro_move (up_m rfl s2_5)) rfl <| ar (ro_call (evL_cons (up_m rfl up_h) (evL_cons up_h evL_nil)) rfl (yInnerErr_ok l h _) y23_hcf84) rfl <| ar (ro_assign up_h) rfl <| ae4 (u4 rfl s1_5) (u4 rfl s2_5) (u4 rfl s8_5) up_h ?_; clear s1_5 s22_5 s2_5 s8_5 s9_5; intro e_8 s1_8 s2_8 s8_8 s10_8
  refine then_n <| aw_seq <| at_ <| ar (ro_move s10_8) rfl <| ar (ro_neq up_h ev_c) rfl <| ae5 (u2 rfl s1_8) (u2 rfl s2_8) (u2 rfl s8_8) (u2 rfl s10_8) up_h ?_; clear s10_8 s1_8 s2_8 s8_8; intro e_9 s1_9 s2_9 s8_9 s10_9 s28_9
  refine then_n <| aw_case s28_9 (fun hq_10 => ?_) (fun hq_10 => ?_)
  ·replace hq_10 := bnt hq_10
   refine aw_seq <| at_ <| ar (ro_move s10_9) rfl <| ar (ro_assign ev_c) rfl <| ar (ro_assign (up_m rfl up_h)) rfl <| ae2 (up_m rfl up_h) up_h ?_; clear s10_9 s1_9 s28_9 s2_9 s8_9; intro e_11 s6_11 s7_11
   refine then_n <| aw_ret <| then_r <| ret2 (.inr rfl) (by kernel_rfl) (resV_tmp s6_11) (resV_tmp s7_11) (.ro _ rfl) (.ro _ rfl) ?_
   clear s6_11 s7_11 mo0_1 ml_1
   (have hm : ¬ misE j 1 (l.js.length - 2) = 0 := (by assumption); simp [limE, hs, hm])
  replace hq_10 := bnf hq_10
  (have hm : misE j 1 (l.js.length - 2) = 0 := (by assumption); have hm2 := misE_z.1 hm; have lm := hL hs2 j.toNat (by omega); rw [show ((j.toNat : Nat) : Int) = j by omega] at lm)
  refine aw_skip <| then_n <| aw_seq <| at_ <| ar (ro_move s8_9) rfl <| ar (ro_move (up_m rfl s1_9)) rfl <| ar (ro_move (u2 rfl s2_9)) rfl <| ar (ro_call (evL_cons (u2 rfl up_h) (evL_cons (up_m rfl up_h) (evL_cons up_h evL_nil))) rfl (lm) y23_hcf85) rfl <| ar (ro_assign up_h) rfl <| ar (ro_assign ev_c) rfl <| ae2 (up_m rfl up_h) up_h ?_; clear s10_9 s1_9 s28_9 s2_9 s8_9; intro e_12 s6_12 s7_12
  refine then_n <| aw_ret <| ret2 (.inr rfl) (by kernel_rfl) (resV_tmp s6_12) (resV_tmp s7_12) (.ro _ rfl) (.ro _ rfl) ?_
  clear s6_12 s7_12 mo0_1 ml_1
  simp [limE, hs, hm]
abbrev vehA (L c s : Int) : AV := .agg [mA L, mA c, mA s]
def vehE (L c s : Int) : Int := unlessE (withinB L 1000 30000 && withinB c 0 1000 && withinB s 100 30000) 2
theorem vehE_z {L c s : Int} : vehE L c s = 0 ↔ (1000 ≤ L ∧ L ≤ 30000) ∧ (0 ≤ c ∧ c ≤ 1000) ∧ 100 ≤ s ∧ s ≤ 30000 := by
  unfold vehE unlessE
  rw [← withinB_iff, ← withinB_iff, ← withinB_iff]
  cases withinB L 1000 30000 <;> cases withinB c 0 1000 <;> cases withinB s 100 30000 <;> simp
set_option maxRecDepth 100000 in
set_option maxHeartbeats 4000000 in
theorem checkVehicle_ok (L c s : Int) : FnOk Try.prog 78 [vehA L c s] (fun q => q = mA (vehE L c s)) := by
  refine fnOk_of (fn := Try.f78) 17 (by kernel_rfl) rfl (by kernel_rfl) (Nat.le_of_ble_eq_true rfl) ?_
  intro e_0 m_0 hA hm_0
  have s0_0 : evA e_0 (.tmp 0) = _ := hA 0 _ rfl
  have ml_0 : m_0.length = 0 := by rw [hm_0]; rfl
  clear hA hm_0
  refine aw_seq <| at_ <| al_stm (st_box s0_0 rfl ml_0) trivial rfl (fun m_1 hm_1 => ?_)
  have mo0_1 := m_push hm_1 ml_0
  have ml_1 := m_push_l hm_1 ml_0
  have ml_1 : _ = 1 := ml_1
  clear hm_1
  refine ar (ro_assign ev_c) rfl <| ae1 (up_m rfl up_h) ?_; clear s0_0; intro e_2 s1_2
  refine then_n <| aw_seq <| at_ <| ar (ro_fld_ptr y23_fl28_0 rfl s1_2) rfl <| ar (ro_eq (ro_ld_ptr y23_ty3 rfl mo0_1 up_h (nle rfl)) (by simp only [pS, Value.cells, Nat.reduceAdd] <;> rfl)) rfl ?_
  refine ar (ro_call (evL_cons up_h (evL_cons ev_c (evL_cons ev_c evL_nil))) rfl (yWithin_ok _ _ _) y23_hcf97) rfl <| ar (ro_move up_h) rfl <| al_case up_h (fun hb_3 hq_3 => ?_) (fun hb_3 hq_3 => ?_)
  ·skip
   refine al_ro' (ro_fld_ptr y23_fl28_1 rfl (u4 rfl s1_2)) ⟨_, rfl, hb_3⟩ rfl ?_
   refine al_ro' (ro_eq (ro_ld_ptr y23_ty3 rfl mo0_1 up_h (nle rfl)) (by simp only [pS, Value.cells, Nat.reduceAdd] <;> rfl)) ⟨_, rfl, (up_m rfl hb_3)⟩ rfl ?_
   refine al_ro' (ro_call (evL_cons up_h (evL_cons ev_c (evL_cons ev_c evL_nil))) rfl (yWithin_ok _ _ _) y23_hcf97) ⟨_, rfl, (u2 rfl hb_3)⟩ rfl ?_
   refine ar (ro_pickT (up_m rfl (u2 rfl hb_3)) up_h) rfl <| ar (ro_move up_h) rfl <| al_case up_h (fun hb_4 hq_4 => ?_) (fun hb_4 hq_4 => ?_)
   ·skip
    refine al_ro' (ro_fld_ptr y23_fl28_2 rfl (up_m rfl (u8 rfl s1_2))) ⟨_, rfl, hb_4⟩ rfl ?_
    refine al_ro' (ro_eq (ro_ld_ptr y23_ty3 rfl mo0_1 up_h (nle rfl)) (by simp only [pS, Value.cells, Nat.reduceAdd] <;> rfl)) ⟨_, rfl, (up_m rfl hb_4)⟩ rfl ?_
    refine al_ro' (ro_call (evL_cons up_h (evL_cons ev_c (evL_cons ev_c evL_nil))) rfl (yWithin_ok _ _ _) y23_hcf97) ⟨_, rfl, (u2 rfl hb_4)⟩ rfl ?_
    refine ar (ro_pickT (up_m rfl (u2 rfl hb_4)) up_h) rfl <| ar (ro_call (evL_cons up_h (evL_cons ev_c evL_nil)) rfl (yUnless_ok _ _) y23_hcf94) rfl <| ar (ro_assign up_h) rfl <| ae1 up_h ?_; clear hb_3 hb_4 s1_2; intro e_5 s2_5
    refine then_n <| aw_ret <| ret1 (.inr rfl) (by kernel_rfl) (resV_tmp s2_5) (.ro _ rfl) ?_
    clear s2_5 mo0_1 ml_1
    (unfold vehE; simp_all)
   refine al_skip' ⟨_, rfl, .inl hb_4⟩ rfl ?_
   refine al_skip' ⟨_, rfl, .inl (up_m rfl hb_4)⟩ rfl ?_
   refine al_skip' ⟨_, rfl, .inl (u2 rfl hb_4)⟩ rfl ?_
   refine ar (ro_pickF (up_m rfl (u2 rfl hb_4)) ev_c) rfl <| ar (ro_call (evL_cons up_h (evL_cons ev_c evL_nil)) rfl (yUnless_ok _ _) y23_hcf94) rfl <| ar (ro_assign up_h) rfl <| ae1 up_h ?_; clear hb_3 hb_4 s1_2; intro e_6 s2_6
   refine then_n <| aw_ret <| ret1 (.inr rfl) (by kernel_rfl) (resV_tmp s2_6) (.ro _ rfl) ?_
   clear s2_6 mo0_1 ml_1
   (unfold vehE; simp_all)
  refine al_skip' ⟨_, rfl, .inl hb_3⟩ rfl ?_
  refine al_skip' ⟨_, rfl, .inl (up_m rfl hb_3)⟩ rfl ?_
  refine al_skip' ⟨_, rfl, .inl (u2 rfl hb_3)⟩ rfl ?_
  refine ar (ro_pickF (up_m rfl (u2 rfl hb_3)) ev_c) rfl <| ar (ro_move up_h) rfl <| al_skip' ⟨_, rfl, .inl up_h⟩ rfl ?_
  refine al_skip' ⟨_, rfl, .inl (up_m rfl up_h)⟩ rfl ?_
  refine al_skip' ⟨_, rfl, .inl (u2 rfl up_h)⟩ rfl ?_
  refine ar (ro_pickF (up_m rfl (u2 rfl up_h)) ev_c) rfl <| ar (ro_call (evL_cons up_h (evL_cons ev_c evL_nil)) rfl (yUnless_ok _ _) y23_hcf94) rfl <| ar (ro_assign up_h) rfl <| ae1 up_h ?_; clear hb_3 s1_2; intro e_7 s2_7
  refine then_n <| aw_ret <| ret1 (.inr rfl) (by kernel_rfl) (resV_tmp s2_7) (.ro _ rfl) ?_
  clear s2_7 mo0_1 ml_1
  (unfold vehE; simp_all)
/-- The error of a pose. -/
def posE (l : Lin) (L s p : Int) : Int := unlessE (withinB p 0 (plaP l.bs l.bs.length - L) && decide (p.tmod s = 0)) 6
theorem posE_z {l : Lin} {L s p : Int} : posE l L s p = 0 ↔ (0 ≤ p ∧ p ≤ plaP l.bs l.bs.length - L) ∧ p.tmod s = 0 := by
  unfold posE unlessE
  rw [← withinB_iff]
  cases withinB p 0 (plaP l.bs l.bs.length - L) <;> by_cases h : p.tmod s = 0 <;> simp [h]
set_option maxRecDepth 100000 in
set_option maxHeartbeats 4000000 in
theorem openPose_good (l : Lin) (hl : Sho l) (hg : (linM l).2 = 0) (L c s p : Int) (hv : vehE L c s = 0) : FnOk Try.prog 71 [lnA l, vehA L c s, mA p] (fun q => q = .tuple [tkA l, mA (posE l L s p)]) := by
  refine fnOk_of (fn := Try.f71) 39 (by kernel_rfl) rfl (by kernel_rfl) (Nat.le_of_ble_eq_true rfl) ?_
  intro e_0 m_0 hA hm_0
  have s0_0 : evA e_0 (.tmp 0) = _ := hA 0 _ rfl
  have s1_0 : evA e_0 (.tmp 1) = _ := hA 1 _ rfl
  have s2_0 : evA e_0 (.tmp 2) = _ := hA 2 _ rfl
  have ml_0 : m_0.length = 0 := by rw [hm_0]; rfl
  clear hA hm_0
  have hf : firstE [0, vehE L c s] = vehE L c s := firstE_0 _; have hv2 := vehE_z.1 hv; have h := rgt_of hg; have hpb := h.pla (n := l.bs.length) (Nat.le_refl _)
  refine aw_seq <| at_ <| al_stm (st_box s0_0 rfl ml_0) trivial rfl (fun m_1 hm_1 => ?_)
  have mo0_1 := m_push hm_1 ml_0
  have ml_1 := m_push_l hm_1 ml_0
  have ml_1 : _ = 1 := ml_1
  clear hm_1
  refine al_stm (st_box (up_m rfl s1_0) rfl ml_1) trivial rfl (fun m_2 hm_2 => ?_)
  have mo1_2 := m_push hm_2 ml_1
  have mo0_2 := m_push_o hm_2 mo0_1
  have ml_2 := m_push_l hm_2 ml_1
  have ml_2 : _ = 2 := ml_2
  clear hm_2 mo0_1
  refine ar (ro_assign ev_c) rfl <| ar (ro_assign ev_c) rfl <| ae3 (u4 rfl s2_0) (up_m rfl (u2 rfl up_h)) (u2 rfl up_h) ?_; clear s0_0 s1_0 s2_0; intro e_3 s2_3 s3_3 s4_3
  refine then_n <| aw_seq <| at_ <| ar (ro_eq (ro_ld_ptr y23_ty26 rfl mo0_2 s3_3 (nle rfl)) (by simp only [pS, Value.cells, Nat.reduceAdd] <;> rfl)) rfl ?_
  refine ar (ro_call (evL_cons up_h evL_nil) rfl (yOpen_good l hl hg) y23_hcf76) rfl <| ar (ro_move up_h) rfl <| ar (ro_extract up_h rfl) rfl <| ar (ro_extract (up_m rfl up_h) rfl) rfl <| ar (ro_assign (up_m rfl up_h)) rfl <| ar (ro_assign (up_m rfl up_h)) rfl <| ae4 (up_m rfl (u2 rfl (u4 rfl s2_3))) (up_m rfl (u2 rfl (u4 rfl s4_3))) (up_m rfl up_h) up_h ?_; clear s2_3 s3_3 s4_3; intro e_4 s2_4 s4_4 s8_4 s9_4
  refine then_n <| aw_seq <| aw_seq <| at_ <| ar (ro_move s9_4) rfl <| ar (ro_eq (ro_ld_ptr y23_ty28 rfl mo1_2 (up_m rfl s4_4) (nle rfl)) (by simp only [pS, Value.cells, Nat.reduceAdd] <;> rfl)) rfl ?_
  refine ar (ro_call (evL_cons up_h evL_nil) rfl (checkVehicle_ok L c s) y23_hcf78) rfl <| ar (ro_lit y23_sl185 (evP_cons (u2 rfl up_h) (evP_cons up_h evP_nil)) rfl rfl rfl rfl) rfl <| ar (ro_call (evL_cons up_h evL_nil) rfl ((yFirst_ok [_, _] (by simp)).mono (fun q h => h.trans (by rw [hf]))) y23_hcf77) rfl ?_
  refine ar (ro_assign up_h) rfl <| ae4 (u2 rfl (u4 rfl s2_4)) (u2 rfl (u4 rfl s4_4)) (u2 rfl (u4 rfl s8_4)) up_h ?_; clear s2_4 s4_4 s8_4 s9_4; intro e_5 s2_5 s4_5 s8_5 s9_5
  refine then_n <| aw_seq <| at_ <| ar (ro_move s9_5) rfl <| ar (ro_neq up_h ev_c) rfl <| ae5 (u2 rfl s2_5) (u2 rfl s4_5) (u2 rfl s8_5) (u2 rfl s9_5) up_h ?_; clear s2_5 s4_5 s8_5 s9_5; intro e_6 s2_6 s4_6 s8_6 s9_6 s21_6
  refine then_n <| aw_case s21_6 (fun hq_7 => ?_) (fun hq_7 => ?_)
  · replace hq_7 := bnt hq_7; exfalso; omega
  replace hq_7 := bnf hq_7
  refine aw_skip <| then_n <| aw_seq <| aw_draw 18 (by kernel_rfl) (by kernel_rfl) (by kernel_rfl) (by kernel_rfl) ?_
  refine dr (ro_move s8_6) rfl <| dr (ro_move (up_m rfl s2_6)) rfl <| dr (ro_move (u2 rfl s8_6)) rfl <| dr (ro_call (evL_cons up_h evL_nil) rfl (length_ok l h) y23_hcf98) rfl <| dr (ro_fld_ptr y23_fl28_0 rfl (u4 rfl s4_6)) rfl <| dr (ro_eq (ro_ld_ptr y23_ty3 rfl mo1_2 up_h (nle rfl)) (by simp only [pS, Value.cells, Nat.reduceAdd] <;> rfl)) rfl ?_
  (refine dr (ro_sub' (u2 rfl up_h) up_h ?_) rfl ?_; · (unfold In64; omega))
  refine dr (ro_call (evL_cons (up_m rfl (u4 rfl up_h)) (evL_cons ev_c (evL_cons up_h evL_nil))) rfl (yWithin_ok _ _ _) y23_hcf97) rfl <| dr (ro_move up_h) rfl <| ds_case up_h (fun hb_9 hq_9 => ?_) (fun hb_9 hq_9 => ?_)
  ·skip
   refine ds_ro' (ro_move (up_m rfl (u8 rfl s2_6))) ⟨_, rfl, hb_9⟩ rfl ?_
   refine ds_ro' (ro_fld_ptr y23_fl28_2 rfl (u2 rfl (u8 rfl s4_6))) ⟨_, rfl, (up_m rfl hb_9)⟩ rfl ?_
   refine ds_ro' (ro_eq (ro_ld_ptr y23_ty3 rfl mo1_2 up_h (nle rfl)) (by simp only [pS, Value.cells, Nat.reduceAdd] <;> rfl)) ⟨_, rfl, (u2 rfl hb_9)⟩ rfl ?_
   refine ds_ro' (ro_rem (u2 rfl up_h) up_h (by omega)) ⟨_, rfl, (up_m rfl (u2 rfl hb_9))⟩ rfl ?_
   refine ds_ro' (ro_eql up_h ev_c) ⟨_, rfl, (u4 rfl hb_9)⟩ rfl ?_
   refine dr (ro_pickT (up_m rfl (u4 rfl hb_9)) up_h) rfl <| dr (ro_call (evL_cons up_h (evL_cons ev_c evL_nil)) rfl (yUnless_ok _ _) y23_hcf94) rfl <| dr (ro_assign (up_m rfl (u2 rfl (u4 rfl (u8 rfl up_h))))) rfl <| dr (ro_assign (up_m rfl up_h)) rfl <| ds_nil <| ae2 (up_m rfl up_h) up_h ?_; clear hb_9 s21_6 s2_6 s4_6 s8_6 s9_6; intro e_10 s6_10 s7_10
   refine then_n <| aw_ret <| ret2 (.inr rfl) (by kernel_rfl) (resV_tmp s6_10) (resV_tmp s7_10) (.ro _ rfl) (.ro _ rfl) ?_
   clear s6_10 s7_10 mo1_2 mo0_2 ml_2
   (unfold posE; simp_all)
  refine ds_skip' ⟨_, rfl, .inl hb_9⟩ rfl ?_
  refine ds_skip' ⟨_, rfl, .inl (up_m rfl hb_9)⟩ rfl ?_
  refine ds_skip' ⟨_, rfl, .inl (u2 rfl hb_9)⟩ rfl ?_
  refine ds_skip' ⟨_, rfl, .inl (up_m rfl (u2 rfl hb_9))⟩ rfl ?_
  refine ds_skip' ⟨_, rfl, .inl (u4 rfl hb_9)⟩ rfl ?_
  refine dr (ro_pickF (up_m rfl (u4 rfl hb_9)) ev_c) rfl <| dr (ro_call (evL_cons up_h (evL_cons ev_c evL_nil)) rfl (yUnless_ok _ _) y23_hcf94) rfl <| dr (ro_assign (up_m rfl (u2 rfl (u4 rfl (u8 rfl up_h))))) rfl <| dr (ro_assign (up_m rfl up_h)) rfl <| ds_nil <| ae2 (up_m rfl up_h) up_h ?_; clear hb_9 s21_6 s2_6 s4_6 s8_6 s9_6; intro e_11 s6_11 s7_11
  refine then_n <| aw_ret <| ret2 (.inr rfl) (by kernel_rfl) (resV_tmp s6_11) (resV_tmp s7_11) (.ro _ rfl) (.ro _ rfl) ?_
  clear s6_11 s7_11 mo1_2 mo0_2 ml_2
  (unfold posE; simp_all)
end Go.Proofs.Ytonjcljnpcmenaa

/- Contracts of chapter 1: the deviation at a joint beneath a pose. No conditions on a program. -/
namespace Go.Proofs.Ytonjcljnpcmenaa
open Go Go.RowKit Go.Proofs
set_option linter.unusedSimpArgs false
set_option linter.unusedVariables false


theorem fdivF {n k : Int} (hk : 1 ≤ k) : (n.tmod k < 0 → n.tdiv k - 1 = n / k) ∧ (¬ n.tmod k < 0 → n.tdiv k = n / k) := by
  have h1 := Int.mul_tdiv_add_tmod n k
  have h2 : n.tmod k < k := Int.tmod_lt_of_pos n (by omega)
  have h3 : -k < n.tmod k := Int.lt_tmod_of_pos n (by omega)
  constructor
  · intro h
    have := (Int.ediv_emod_unique (a := n) (b := k) (r := n.tmod k + k) (q := n.tdiv k - 1) (by omega)).2 ⟨by rw [Int.mul_sub]; omega, by omega, by omega⟩
    exact this.1.symm
  · intro h
    have := (Int.ediv_emod_unique (a := n) (b := k) (r := n.tmod k) (q := n.tdiv k) (by omega)).2 ⟨by omega, by omega, h2⟩
    exact this.1.symm
set_option maxRecDepth 100000 in
set_option maxHeartbeats 1000000 in
theorem yFloor_ok (n k : Int) (hk : 1 ≤ k) (hn : -4000000000000000000 ≤ n ∧ n ≤ 4000000000000000000) : FnOk Try.prog 132 [mA n, mA k] (fun q => q = mA (n / k)) := by
  have hb := tdiv_bd hn k
  have hf := fdivF (n := n) hk
  refine fnOk_of (fn := Try.f132) 16 (by kernel_rfl) rfl (by kernel_rfl) (Nat.le_of_ble_eq_true rfl) ?_
  intro e_0 m_0 hA hm_0
  have s0_0 : evA e_0 (.tmp 0) = _ := hA 0 _ rfl
  have s1_0 : evA e_0 (.tmp 1) = _ := hA 1 _ rfl
  have ml_0 : m_0.length = 0 := by rw [hm_0]; rfl
  clear hA hm_0
  refine aw_seq <| at_ <| ar (ro_assign ev_c) rfl <| ae2 (up_m rfl s0_0) (up_m rfl s1_0) ?_; clear s0_0 s1_0; intro e_1 s0_1 s1_1
  refine then_n <| aw_seq <| at_ <| ar (ro_move s0_1) rfl <| ar (ro_move (up_m rfl s1_1)) rfl ?_
  (refine ar (ro_quo' (up_m rfl up_h) up_h (by omega) ?_) rfl ?_; · (unfold In64; omega))
  refine ar (ro_assign up_h) rfl <| ae3 (u4 rfl s0_1) (u4 rfl s1_1) up_h ?_; clear s0_1 s1_1; intro e_2 s0_2 s1_2 s5_2
  refine then_n <| aw_seq <| aw_seq <| at_ <| ar (ro_move s0_2) rfl <| ar (ro_move (up_m rfl s1_2)) rfl <| ar (ro_rem (up_m rfl up_h) up_h (by omega)) rfl ?_
  refine ar (ro_lss up_h ev_c) rfl <| ae2 (u4 rfl s5_2) up_h ?_; clear s0_2 s1_2 s5_2; intro e_3 s5_3 s12_3
  refine then_n <| aw_case s12_3 (fun hq_4 => ?_) (fun hq_4 => ?_)
  ·replace hq_4 := bt hq_4
   refine at_ <| ar (ro_move s5_3) rfl ?_
   (refine ar (ro_sub' up_h ev_c ?_) rfl ?_; · (unfold In64; omega))
   refine ar (ro_assign up_h) rfl <| ae1 up_h ?_; clear s12_3 s5_3; intro e_5 s5_5
   refine then_n <| aw_seq <| at_ <| ar (ro_move s5_5) rfl <| ar (ro_assign up_h) rfl <| ae1 up_h ?_; clear s5_5; intro e_6 s4_6
   refine then_n <| aw_ret <| ret1 (.inr rfl) (by kernel_rfl) (resV_tmp s4_6) (.ro _ rfl) ?_
   clear s4_6  ml_0
   (refine avj ?_; exact hf.1 (by assumption))
  replace hq_4 := bf hq_4
  refine aw_skip <| then_n <| aw_seq <| at_ <| ar (ro_move s5_3) rfl <| ar (ro_assign up_h) rfl <| ae1 up_h ?_; clear s12_3 s5_3; intro e_7 s4_7
  refine then_n <| aw_ret <| ret1 (.inr rfl) (by kernel_rfl) (resV_tmp s4_7) (.ro _ rfl) ?_
  clear s4_7  ml_0
  (refine avj ?_; exact hf.2 (by assumption))
def addAt (ws : List Int) (i : Nat) (d : Int) : List Int := ws.set i (ws.getD i default + d)
def subAt (ws : List Int) (i : Nat) (d : Int) : List Int := ws.set i (ws.getD i default - d)
theorem addAt_f (ws : List Int) (i : Nat) (d : Int) : ws.set i (ws.getD i default + d) = addAt ws i d := rfl
theorem subAt_f (ws : List Int) (i : Nat) (d : Int) : ws.set i (ws.getD i default - d) = subAt ws i d := rfl
/-- The sizes of the first n numbers together. -/
def absP (ws : List Int) : Nat → Nat
  | 0 => 0
  | n + 1 => absP ws n + (ws.getD n default).natAbs
theorem absP_mono {ws : List Int} {m : Nat} : ∀ {n : Nat}, m ≤ n → absP ws m ≤ absP ws n
  | 0, h => by obtain rfl : m = 0 := by omega
               exact Nat.le_refl _
  | n + 1, h => by
    by_cases hm : m = n + 1
    · subst hm; exact Nat.le_refl _
    · have := absP_mono (ws := ws) (m := m) (n := n) (by omega)
      simp only [absP]; omega
theorem absP_get {ws : List Int} {n i : Nat} (h : i < n) : (ws.getD i default).natAbs ≤ absP ws n := by
  have := absP_mono (ws := ws) (m := i + 1) (n := n) (by omega)
  simp only [absP] at this; omega
theorem getD_setW (ws : List Int) (i j : Nat) (v : Int) : (ws.set i v).getD j default = if i = j ∧ j < ws.length then v else ws.getD j default := by
  rw [List.getD_eq_getElem?_getD, List.getElem?_set]
  by_cases h : i = j
  · subst h
    by_cases hl : i < ws.length
    · simp [hl]
    · simp [hl]
  · simp [h]
theorem absP_set (ws : List Int) (i : Nat) (v : Int) : ∀ n : Nat, absP (ws.set i v) n ≤ absP ws n + if i < n then (v - ws.getD i default).natAbs else 0
  | 0 => by simp [absP]
  | n + 1 => by
    have ih := absP_set ws i v n
    simp only [absP]
    rw [getD_setW]
    by_cases h : i = n
    · subst h
      rw [if_neg (by omega)] at ih
      rw [if_pos (show i < i + 1 by omega)]
      split <;> omega
    · rw [if_neg (fun hc => h hc.1)]
      by_cases h2 : i < n
      · rw [if_pos h2] at ih; rw [if_pos (by omega)]; omega
      · rw [if_neg h2] at ih; rw [if_neg (by omega)]; omega
theorem absP_add {ws : List Int} {i n A B : Nat} {d : Int} (h : absP ws n ≤ A) (hd : d.natAbs ≤ B) : absP (addAt ws i d) n ≤ A + B := by
  have := absP_set ws i (ws.getD i default + d) n
  unfold addAt
  split at this <;> omega
theorem absP_sub {ws : List Int} {i n A B : Nat} {d : Int} (h : absP ws n ≤ A) (hd : d.natAbs ≤ B) : absP (subAt ws i d) n ≤ A + B := by
  have := absP_set ws i (ws.getD i default - d) n
  unfold subAt
  split at this <;> omega
theorem absP_rep (m : Nat) : ∀ n : Nat, absP (List.replicate m 0) n = 0
  | 0 => rfl
  | n + 1 => by
    simp only [absP, absP_rep m n]
    rw [List.getD_eq_getElem?_getD, List.getElem?_replicate]
    split <;> rfl
theorem len_addAt (ws : List Int) (i : Nat) (d : Int) : (addAt ws i d).length = ws.length := by simp [addAt]
theorem len_subAt (ws : List Int) (i : Nat) (d : Int) : (subAt ws i d).length = ws.length := by simp [subAt]
/-- The product of three lengths. -/
def devD (l : Lin) (L p : Int) : Int := (l.bs.getD (atI l p) default).len * (l.bs.getD (atI l (p + L)) default).len * L
/-- The weights of the joints. -/
def wts1 (l : Lin) (L p : Int) (j : Nat) : List Int := addAt (List.replicate l.js.length 0) j (devD l L p)
def wts2 (l : Lin) (L p : Int) (j : Nat) : List Int := subAt (wts1 l L p j) (atI l p) ((L - (plaP l.bs j - p)) * ((l.bs.getD (atI l p) default).len - atD l p) * (l.bs.getD (atI l (p + L)) default).len)
def wts3 (l : Lin) (L p : Int) (j : Nat) : List Int := subAt (wts2 l L p j) (atI l p + 1) ((L - (plaP l.bs j - p)) * atD l p * (l.bs.getD (atI l (p + L)) default).len)
def wts4 (l : Lin) (L p : Int) (j : Nat) : List Int := subAt (wts3 l L p j) (atI l (p + L)) ((plaP l.bs j - p) * ((l.bs.getD (atI l (p + L)) default).len - atD l (p + L)) * (l.bs.getD (atI l p) default).len)
def wtsL (l : Lin) (L p : Int) (j : Nat) : List Int := subAt (wts4 l L p j) (atI l (p + L) + 1) ((plaP l.bs j - p) * atD l (p + L) * (l.bs.getD (atI l p) default).len)
theorem len_wts1 {l : Lin} {L p : Int} {j : Nat} : (wts1 l L p j).length = l.js.length := by simp [wts1, len_addAt]
theorem len_wts2 {l : Lin} {L p : Int} {j : Nat} : (wts2 l L p j).length = l.js.length := by simp [wts2, len_subAt, len_wts1]
theorem len_wts3 {l : Lin} {L p : Int} {j : Nat} : (wts3 l L p j).length = l.js.length := by simp [wts3, len_subAt, len_wts2]
theorem len_wts4 {l : Lin} {L p : Int} {j : Nat} : (wts4 l L p j).length = l.js.length := by simp [wts4, len_subAt, len_wts3]
theorem len_wts {l : Lin} {L p : Int} {j : Nat} : (wtsL l L p j).length = l.js.length := by simp [wtsL, len_subAt, len_wts4]
/-- A pose that is right, and a joint beneath it. -/
structure Pos (l : Lin) (L p : Int) (j : Nat) : Prop where
  L0 : 1000 ≤ L
  L1 : L ≤ 30000
  p0 : 0 ≤ p
  p1 : p + L ≤ plaP l.bs l.bs.length
  j0 : p ≤ plaP l.bs j
  j1 : plaP l.bs j ≤ p + L
  jn : j < l.js.length
theorem Pos.bd {l : Lin} (h : Rgt l) {L p : Int} {j : Nat} (q : Pos l L p j) : 1 ≤ devD l L p ∧ devD l L p ≤ 27000000000000 ∧ ((L - (plaP l.bs j - p)) * ((l.bs.getD (atI l p) default).len - atD l p) * (l.bs.getD (atI l (p + L)) default).len).natAbs ≤ 27000000000000 ∧
    ((L - (plaP l.bs j - p)) * atD l p * (l.bs.getD (atI l (p + L)) default).len).natAbs ≤ 27000000000000 ∧ ((plaP l.bs j - p) * ((l.bs.getD (atI l (p + L)) default).len - atD l (p + L)) * (l.bs.getD (atI l p) default).len).natAbs ≤ 27000000000000 ∧ ((plaP l.bs j - p) * atD l (p + L) * (l.bs.getD (atI l p) default).len).natAbs ≤ 27000000000000 := by
  obtain ⟨L0, L1, p0, p1, j0, j1, jn⟩ := q
  obtain ⟨a1, a2, a3⟩ := at_bd h (p := p) ⟨p0, by omega⟩
  obtain ⟨b1, b2, b3⟩ := at_bd h (p := p + L) ⟨by omega, p1⟩
  have c1 := h.bea _ a1
  have c2 := h.bea _ b1
  have t : ∀ {x y z : Int}, x.natAbs ≤ 30000 → y.natAbs ≤ 30000 → z.natAbs ≤ 30000 → (x * y * z).natAbs ≤ 27000000000000 := fun h1 h2 h3 => mul_in (30000 * 30000) 30000 (mul_in 30000 30000 h1 h2) h3
  have d0 := t (x := (l.bs.getD (atI l p) default).len) (y := (l.bs.getD (atI l (p + L)) default).len) (z := L) (by omega) (by omega) (by omega)
  have d1 : 0 < devD l L p := Int.mul_pos (Int.mul_pos (by omega) (by omega)) (by omega)
  refine ⟨by omega, by unfold devD at d1 ⊢; omega, t (by omega) (by omega) (by omega), t (by omega) (by omega) (by omega), t (by omega) (by omega) (by omega), t (by omega) (by omega) (by omega)⟩
theorem Pos.abs {l : Lin} (h : Rgt l) {L p : Int} {j : Nat} (q : Pos l L p j) : absP (wts1 l L p j) l.js.length ≤ 27000000000000 ∧ absP (wts2 l L p j) l.js.length ≤ 54000000000000 ∧ absP (wts3 l L p j) l.js.length ≤ 81000000000000 ∧ absP (wts4 l L p j) l.js.length ≤ 108000000000000 ∧ absP (wtsL l L p j) l.js.length ≤ 135000000000000 := by
  obtain ⟨d0, d1, d2, d3, d4, d5⟩ := q.bd h
  have e0 : absP (List.replicate l.js.length 0) l.js.length ≤ 0 := by rw [absP_rep]; exact Nat.le_refl _
  have e1 : absP (wts1 l L p j) l.js.length ≤ 0 + 27000000000000 := absP_add e0 (by omega)
  have e2 : absP (wts2 l L p j) l.js.length ≤ 0 + 27000000000000 + 27000000000000 := absP_sub e1 d2
  have e3 : absP (wts3 l L p j) l.js.length ≤ 0 + 27000000000000 + 27000000000000 + 27000000000000 := absP_sub e2 d3
  have e4 : absP (wts4 l L p j) l.js.length ≤ 0 + 27000000000000 + 27000000000000 + 27000000000000 + 27000000000000 := absP_sub e3 d4
  have e5 : absP (wtsL l L p j) l.js.length ≤ 0 + 27000000000000 + 27000000000000 + 27000000000000 + 27000000000000 + 27000000000000 := absP_sub e4 d5
  omega
/-- The first n joints' parts together. -/
def devS (f : Int → Jnt → Int) (ws : List Int) (js : List Jnt) : Nat → Int
  | 0 => 0
  | n + 1 => devS f ws js n + f (ws.getD n default) (js.getD n default)
def loF (w : Int) (j : Jnt) : Int := w * j.acr + min (w * j.lo) (w * j.hi)
def hiF (w : Int) (j : Jnt) : Int := w * j.acr + max (w * j.lo) (w * j.hi)
theorem fF_bd {w : Int} {j : Jnt} {A : Nat} (hw : w.natAbs ≤ A) (h1 : -20000 ≤ j.acr ∧ j.acr ≤ 20000) (h2 : -100 ≤ j.lo ∧ j.hi ≤ 100 ∧ j.lo ≤ j.hi) : (loF w j).natAbs ≤ 20100 * A ∧ (hiF w j).natAbs ≤ 20100 * A ∧ (w * j.acr).natAbs ≤ A * 20000 ∧ (w * j.lo).natAbs ≤ A * 100 ∧ (w * j.hi).natAbs ≤ A * 100 := by
  have m1 := mul_in (x := w) (y := j.acr) A 20000 hw (by omega)
  have m2 := mul_in (x := w) (y := j.lo) A 100 hw (by omega)
  have m3 := mul_in (x := w) (y := j.hi) A 100 hw (by omega)
  unfold loF hiF
  omega
theorem devS_bd {l : Lin} (h : Rgt l) {f : Int → Jnt → Int} (hf : f = loF ∨ f = hiF) {ws : List Int} : ∀ {n : Nat}, n ≤ l.js.length → (devS f ws l.js n).natAbs ≤ 20100 * absP ws n
  | 0, _ => by simp [devS]
  | n + 1, hn => by
    have ih := devS_bd h hf (ws := ws) (n := n) (by omega)
    have j1 := h.jnt n (by omega)
    have := fF_bd (w := ws.getD n default) (j := l.js.getD n default) (Nat.le_refl _) j1.1 ⟨j1.2.2.1, j1.2.2.2.1, j1.2.2.2.2⟩
    simp only [devS, absP]
    rcases hf with rfl | rfl <;> omega
/-- The deviation at a joint beneath a pose. -/
def devLo (l : Lin) (L p : Int) (j : Nat) : Int := devS loF (wtsL l L p j) l.js l.js.length / devD l L p
def devHi (l : Lin) (L p : Int) (j : Nat) : Int := -(-devS hiF (wtsL l L p j) l.js l.js.length / devD l L p)
end Go.Proofs.Ytonjcljnpcmenaa

/- Contracts of chapter 1: the deviation at a joint beneath a pose, the walk. No conditions on a program. -/
namespace Go.Proofs.Ytonjcljnpcmenaa
open Go Go.RowKit Go.Proofs
set_option linter.unusedSimpArgs false
set_option linter.unusedVariables false
theorem y25_az39 : (Try.prog.info? 39).bind (·.zero) = some (.agg #[.int .i64 0, .int .i64 0]) := by kernel_rfl
theorem y25_az70 : (Try.prog.info? 70).bind (·.zero) = some (.agg #[.int .i64 0, .int .i64 0, .int .i64 0, .int .i64 0]) := by kernel_rfl
theorem y25_bz39 : (Try.prog.info? 39).bind (·.zero) = some (.agg #[.int .i64 0, .int .i64 0]) := by kernel_rfl
theorem y25_bu39 : Try.prog.underlying 39 = some (.struct (fsOf Try.prog 39)) := by kernel_rfl
theorem y25_bp39 : ∀ w, ((fsOf Try.prog 39).mapM fun f => Prod.mk f.offset <$> sizeOf f.type : Sem (Array (Nat × Nat))).run Try.prog w = .ok (#[(0, 1), (1, 1)]) w := fun _ => by kernel_rfl
theorem y25_fl141_0 : FldIs Try.prog 141 0 0 true 4 := by unfold FldIs; kernel_rfl
theorem y25_fl141_1 : FldIs Try.prog 141 1 4 false 1 := by unfold FldIs; kernel_rfl
theorem y25_fl26_1 : FldIs Try.prog 26 1 1 false 1 := by unfold FldIs; kernel_rfl
theorem y25_fl26_2 : FldIs Try.prog 26 2 2 false 1 := by unfold FldIs; kernel_rfl
theorem y25_fl28_0 : FldIs Try.prog 28 0 0 false 1 := by unfold FldIs; kernel_rfl
theorem y25_fl39_0 : FldIs Try.prog 39 0 0 false 1 := by unfold FldIs; kernel_rfl
theorem y25_fl39_1 : FldIs Try.prog 39 1 1 false 1 := by unfold FldIs; kernel_rfl
theorem y25_fl70_0 : FldIs Try.prog 70 0 0 false 1 := by unfold FldIs; kernel_rfl
theorem y25_fl70_2 : FldIs Try.prog 70 2 2 true 2 := by unfold FldIs; kernel_rfl
theorem y25_fl87_0 : FldIs Try.prog 87 0 0 false 1 := by unfold FldIs; kernel_rfl
theorem y25_hcf131 : ∀ args w, (callFunc 131 args).run Try.prog w = .ok (.enter 131 args) w := fun _ _ => by kernel_rfl
theorem y25_hcf132 : ∀ args w, (callFunc 132 args).run Try.prog w = .ok (.enter 132 args) w := fun _ _ => by kernel_rfl
theorem y25_sl22 : SlIs Try.prog 22 70 4 32 (.agg #[.int .i64 0, .int .i64 0, .int .i64 0, .int .i64 0]) := ⟨by kernel_rfl, by kernel_rfl, by kernel_rfl⟩
theorem y25_sl23 : SlIs Try.prog 23 87 2 16 (.agg #[.int .i64 0, .int .i64 0]) := ⟨by kernel_rfl, by kernel_rfl, by kernel_rfl⟩
theorem y25_sl49 : SlIs Try.prog 49 3 1 8 (.int .i64 0) := ⟨by kernel_rfl, by kernel_rfl, by kernel_rfl⟩
theorem y25_sz3 : (Try.prog.info? 3).map (·.size) = some 1 := by kernel_rfl
theorem y25_sz39 : (Try.prog.info? 39).map (·.size) = some 2 := by kernel_rfl
theorem y25_sz70 : (Try.prog.info? 70).map (·.size) = some 4 := by kernel_rfl
theorem y25_ty22 : TyIs Try.prog 22 false 1 := ⟨by kernel_rfl, by kernel_rfl⟩
theorem y25_ty23 : TyIs Try.prog 23 false 1 := ⟨by kernel_rfl, by kernel_rfl⟩
theorem y25_ty3 : TyIs Try.prog 3 false 1 := ⟨by kernel_rfl, by kernel_rfl⟩
theorem y25_ty39 : TyIs Try.prog 39 true 2 := ⟨by kernel_rfl, by kernel_rfl⟩
theorem y25_ty49 : TyIs Try.prog 49 false 1 := ⟨by kernel_rfl, by kernel_rfl⟩
theorem y25_ty70 : TyIs Try.prog 70 true 4 := ⟨by kernel_rfl, by kernel_rfl⟩

theorem devD_f (l : Lin) (L p : Int) : (l.bs.getD (atI l p) default).len * (l.bs.getD (atI l (p + L)) default).len * L = devD l L p := rfl
theorem wts1_f (l : Lin) (L p : Int) (j : Nat) : addAt (List.replicate l.js.length 0) j (devD l L p) = wts1 l L p j := rfl
theorem wts2_f (l : Lin) (L p : Int) (j : Nat) : subAt (wts1 l L p j) (atI l p) ((L - (plaP l.bs j - p)) * ((l.bs.getD (atI l p) default).len - atD l p) * (l.bs.getD (atI l (p + L)) default).len) = wts2 l L p j := rfl
theorem wts3_f (l : Lin) (L p : Int) (j : Nat) : subAt (wts2 l L p j) (atI l p + 1) ((L - (plaP l.bs j - p)) * atD l p * (l.bs.getD (atI l (p + L)) default).len) = wts3 l L p j := rfl
theorem wts4_f (l : Lin) (L p : Int) (j : Nat) : subAt (wts3 l L p j) (atI l (p + L)) ((plaP l.bs j - p) * ((l.bs.getD (atI l (p + L)) default).len - atD l (p + L)) * (l.bs.getD (atI l p) default).len) = wts4 l L p j := rfl
theorem wtsL_f (l : Lin) (L p : Int) (j : Nat) : subAt (wts4 l L p j) (atI l (p + L) + 1) ((plaP l.bs j - p) * atD l (p + L) * (l.bs.getD (atI l p) default).len) = wtsL l L p j := rfl
theorem nat2 {x : Int} {A : Nat} (h : x.natAbs ≤ A) : -(A : Int) ≤ x ∧ x ≤ A := by omega
theorem ediv_bd {n k : Int} (hk : 1 ≤ k) (hn : -4000000000000000000 ≤ n ∧ n ≤ 4000000000000000000) : -4000000000000000001 ≤ n / k ∧ n / k ≤ 4000000000000000000 := by
  have hb := tdiv_bd hn k
  have hf := fdivF (n := n) hk
  by_cases h : n.tmod k < 0
  · have := hf.1 h; omega
  · have := hf.2 h; omega
theorem dev_in {l : Lin} (h : Rgt l) {f : Int → Jnt → Int} (hf : f = loF ∨ f = hiF) {ws : List Int} {A : Nat} (hw : absP ws l.js.length ≤ A) {n : Nat} (hn : n ≤ l.js.length) : -(20100 * (A : Int)) ≤ devS f ws l.js n ∧ devS f ws l.js n ≤ 20100 * (A : Int) := by
  have h1 := devS_bd h hf (ws := ws) hn
  have h2 := absP_mono (ws := ws) hn
  omega
set_option maxRecDepth 100000 in
set_option maxHeartbeats 4000000 in
theorem deviation_ok (l : Lin) (h : Rgt l) (L c s p : Int) (j : Nat) (q : Pos l L p j) : FnOk Try.prog 74 [tkA l, vehA L c s, mA p, mA j] (fun q => q = .agg [mA (devLo l L p j), mA (devHi l L p j)]) := by
  refine fnOk_of (fn := Try.f74) 204 (by kernel_rfl) rfl (by kernel_rfl) (Nat.le_of_ble_eq_true rfl) ?_
  intro e_0 m_0 hA hm_0
  have s0_0 : evA e_0 (.tmp 0) = _ := hA 0 _ rfl
  have s1_0 : evA e_0 (.tmp 1) = _ := hA 1 _ rfl
  have s2_0 : evA e_0 (.tmp 2) = _ := hA 2 _ rfl
  have s3_0 : evA e_0 (.tmp 3) = _ := hA 3 _ rfl
  have ml_0 : m_0.length = 0 := by rw [hm_0]; rfl
  clear hA hm_0
  have hn1 := h.n1; have hn0 := h.n0; have hjs := h.js; obtain ⟨L0, L1, p0, p1, j0, j1, jn⟩ := id q; obtain ⟨a1, a2, a3⟩ := at_bd h (p := p) ⟨p0, by omega⟩; obtain ⟨b1, b2, b3⟩ := at_bd h (p := p + L) ⟨by omega, p1⟩; have c1 := h.bea _ a1; have c2 := h.bea _ b1; have hpl := plaL_len (bs := l.bs) (n := l.bs.length); have hpb := h.pla (n := l.bs.length) (Nat.le_refl _); have hpj := h.pla (n := j) (by omega); have hgj := plaL_get (bs := l.bs) (n := l.bs.length) (j := j) (by omega); obtain ⟨d0, d1, d2, d3, d4, d5⟩ := q.bd h; replace d2 := nat2 d2; replace d3 := nat2 d3; replace d4 := nat2 d4; replace d5 := nat2 d5; obtain ⟨s1, s2, s3, s4, s5⟩ := q.abs h; have m1 := nat2 (mul_in (x := (l.bs.getD (atI l p) default).len) (y := (l.bs.getD (atI l (p + L)) default).len) 30000 30000 (by omega) (by omega)); have m2 := nat2 (mul_in (x := L - (plaP l.bs j - p)) (y := (l.bs.getD (atI l p) default).len - atD l p) 30000 30000 (by omega) (by omega)); have m3 := nat2 (mul_in (x := L - (plaP l.bs j - p)) (y := atD l p) 30000 30000 (by omega) (by omega)); have m4 := nat2 (mul_in (x := plaP l.bs j - p) (y := (l.bs.getD (atI l (p + L)) default).len - atD l (p + L)) 30000 30000 (by omega) (by omega)); have m5 := nat2 (mul_in (x := plaP l.bs j - p) (y := atD l (p + L)) 30000 30000 (by omega) (by omega)); have hdd : (l.bs.getD (atI l p) default).len * (l.bs.getD (atI l (p + L)) default).len * L = devD l L p := rfl; have g0 : (List.replicate l.js.length (0 : Int)).getD j default = 0 := (by simp [jn]); have g2 := nat2 (Nat.le_trans (absP_get (ws := wts1 l L p j) (n := l.js.length) (i := atI l p) (by omega)) s1); have g3 := nat2 (Nat.le_trans (absP_get (ws := wts2 l L p j) (n := l.js.length) (i := atI l p + 1) (by omega)) s2); have g4 := nat2 (Nat.le_trans (absP_get (ws := wts3 l L p j) (n := l.js.length) (i := atI l (p + L)) (by omega)) s3); have g5 := nat2 (Nat.le_trans (absP_get (ws := wts4 l L p j) (n := l.js.length) (i := atI l (p + L) + 1) (by omega)) s4); have k0 : (List.replicate l.js.length (0 : Int)).length = l.js.length := (by simp); have k1 := len_wts1 (l := l) (L := L) (p := p) (j := j); have k2 := len_wts2 (l := l) (L := L) (p := p) (j := j); have k3 := len_wts3 (l := l) (L := L) (p := p) (j := j); have k4 := len_wts4 (l := l) (L := L) (p := p) (j := j); have k5 := len_wts (l := l) (L := L) (p := p) (j := j)
  refine aw_seq <| at_ <| al_stm (st_box s1_0 rfl ml_0) trivial rfl (fun m_1 hm_1 => ?_)
  have mo0_1 := m_push hm_1 ml_0
  have ml_1 := m_push_l hm_1 ml_0
  have ml_1 : _ = 1 := ml_1
  clear hm_1
  refine al_stm (st_alloc y25_az39 rfl ml_1) trivial rfl (fun m_2 hm_2 => ?_)
  have mo1_2 := m_push hm_2 ml_1
  simp only [pS, Value.cells, Nat.reduceAdd, jnE, beE, Int.toNat_natCast, toNat_suc, rep_iE, set_iE, hgj, addAt_f, subAt_f, devD_f, wts1_f, wts2_f, wts3_f, wts4_f, wtsL_f] at mo1_2
  have mo0_2 := m_push_o hm_2 mo0_1
  have ml_2 := m_push_l hm_2 ml_1
  have ml_2 : _ = 2 := ml_2
  clear hm_2 mo0_1
  refine ae5 (u2 rfl s0_0) (u2 rfl s2_0) (u2 rfl s3_0) (up_m rfl up_h) up_h ?_; clear s0_0 s1_0 s2_0 s3_0; intro e_3 s0_3 s2_3 s3_3 s5_3 s8_3
  refine then_n <| aw_seq <| at_ <| ar (ro_move s0_3) rfl <| ar (ro_move (up_m rfl s2_3)) rfl <| ar (ro_call (evL_cons (up_m rfl up_h) (evL_cons up_h evL_nil)) rfl (atX_ok l h p ⟨p0, by omega⟩) y25_hcf131) rfl ?_
  refine ar (ro_move up_h) rfl <| ar (ro_extract up_h rfl) rfl <| ar (ro_extract (up_m rfl up_h) rfl) rfl <| ar (ro_assign (up_m rfl up_h)) rfl <| ar (ro_assign (up_m rfl up_h)) rfl <| ae7 (u8 rfl s0_3) (u8 rfl s2_3) (u8 rfl s3_3) (u8 rfl s5_3) (u8 rfl s8_3) (up_m rfl up_h) up_h ?_; clear s0_3 s2_3 s3_3 s5_3 s8_3; intro e_4 s0_4 s2_4 s3_4 s5_4 s8_4 s9_4 s10_4
  refine then_n <| aw_seq <| at_ <| ar (ro_move s0_4) rfl <| ar (ro_move (up_m rfl s2_4)) rfl <| ar (ro_fld_ptr y25_fl28_0 rfl (u2 rfl s5_4)) rfl <| ar (ro_eq (ro_ld_ptr y25_ty3 rfl mo0_2 up_h (nle rfl)) (by simp only [pS, Value.cells, Nat.reduceAdd, jnE, beE, Int.toNat_natCast, toNat_suc, rep_iE, set_iE, hgj, addAt_f, subAt_f, devD_f, wts1_f, wts2_f, wts3_f, wts4_f, wtsL_f] <;> rfl)) rfl ?_
  (refine ar (ro_add' (u2 rfl up_h) up_h ?_) rfl ?_; · (unfold In64; omega))
  refine ar (ro_call (evL_cons (u4 rfl up_h) (evL_cons up_h evL_nil)) rfl (atX_ok l h (p + L) ⟨by omega, p1⟩) y25_hcf131) rfl ?_
  refine ar (ro_move up_h) rfl <| ar (ro_extract up_h rfl) rfl <| ar (ro_extract (up_m rfl up_h) rfl) rfl <| ar (ro_assign (up_m rfl up_h)) rfl <| ar (ro_assign (up_m rfl up_h)) rfl <| ae9 (up_m rfl (u2 rfl (u8 rfl s0_4))) (up_m rfl (u2 rfl (u8 rfl s2_4))) (up_m rfl (u2 rfl (u8 rfl s3_4))) (up_m rfl (u2 rfl (u8 rfl s5_4))) (up_m rfl (u2 rfl (u8 rfl s8_4))) (up_m rfl (u2 rfl (u8 rfl s9_4))) (up_m rfl (u2 rfl (u8 rfl s10_4))) (up_m rfl up_h) up_h ?_; clear s0_4 s10_4 s2_4 s3_4 s5_4 s8_4 s9_4; intro e_5 s0_5 s2_5 s3_5 s5_5 s8_5 s9_5 s10_5 s11_5 s12_5
  refine then_n <| aw_seq <| at_ <| ar (ro_move s0_5) rfl <| ar (ro_nilR up_h) rfl <| ar (ro_eq (ro_fld_ref y25_fl141_1 rfl up_h) (by simp only [pS, Value.cells, Nat.reduceAdd, jnE, beE, Int.toNat_natCast, toNat_suc, rep_iE, set_iE, hgj, addAt_f, subAt_f, devD_f, wts1_f, wts2_f, wts3_f, wts4_f, wtsL_f] <;> rfl)) rfl ?_
  refine ar (ro_eq (ro_ld_ref y25_ty49 rfl up_h (nle rfl)) (by simp only [pS, Value.cells, Nat.reduceAdd, jnE, beE, Int.toNat_natCast, toNat_suc, rep_iE, set_iE, hgj, addAt_f, subAt_f, devD_f, wts1_f, wts2_f, wts3_f, wts4_f, wtsL_f] <;> rfl)) rfl ?_
  refine ar (ro_move (u4 rfl s3_5)) rfl <| ar (ro_eq (ro_ix y25_sl49 (up_m rfl up_h) up_h (by omega) (by first | (refine idx_map ?_; first | omega | (simp only [lnS]; omega)) | (refine idx_mapI ?_; first | omega | (simp only [lnS]; omega)) | (refine idx_mapN ?_; first | omega | (simp only [lnS]; omega)) | rfl)) (by simp only [pS, Value.cells, Nat.reduceAdd, jnE, beE, Int.toNat_natCast, toNat_suc, rep_iE, set_iE, hgj, addAt_f, subAt_f, devD_f, wts1_f, wts2_f, wts3_f, wts4_f, wtsL_f] <;> rfl)) rfl ?_
  refine ar (ro_eq (ro_ld_ref y25_ty3 rfl up_h (nle rfl)) (by simp only [pS, Value.cells, Nat.reduceAdd, jnE, beE, Int.toNat_natCast, toNat_suc, rep_iE, set_iE, hgj, addAt_f, subAt_f, devD_f, wts1_f, wts2_f, wts3_f, wts4_f, wtsL_f] <;> rfl)) rfl ?_
  refine ar (ro_move (up_m rfl (u2 rfl (u4 rfl s2_5)))) rfl ?_
  (refine ar (ro_sub' (up_m rfl up_h) up_h ?_) rfl ?_; · (unfold In64; omega))
  refine ar (ro_assign up_h) rfl <| ae9 (u2 rfl (u8 rfl s0_5)) (u2 rfl (u8 rfl s3_5)) (u2 rfl (u8 rfl s5_5)) (u2 rfl (u8 rfl s8_5)) (u2 rfl (u8 rfl s9_5)) (u2 rfl (u8 rfl s10_5)) (u2 rfl (u8 rfl s11_5)) (u2 rfl (u8 rfl s12_5)) up_h ?_; clear s0_5 s10_5 s11_5 s12_5 s2_5 s3_5 s5_5 s8_5 s9_5; intro e_6 s0_6 s3_6 s5_6 s8_6 s9_6 s10_6 s11_6 s12_6 s13_6
  refine then_n <| aw_seq <| aw_draw 20 (by kernel_rfl) (by kernel_rfl) (by kernel_rfl) (by kernel_rfl) ?_
  refine dr (ro_move s0_6) rfl <| dr (ro_nilR up_h) rfl <| dr (ro_eq (ro_fld_ref y25_fl141_0 rfl up_h) (by simp only [pS, Value.cells, Nat.reduceAdd, jnE, beE, Int.toNat_natCast, toNat_suc, rep_iE, set_iE, hgj, addAt_f, subAt_f, devD_f, wts1_f, wts2_f, wts3_f, wts4_f, wtsL_f] <;> rfl)) rfl ?_
  refine dr (ro_eq (ro_fld_ref y25_fl26_2 rfl up_h) (by simp only [pS, Value.cells, Nat.reduceAdd, jnE, beE, Int.toNat_natCast, toNat_suc, rep_iE, set_iE, hgj, addAt_f, subAt_f, devD_f, wts1_f, wts2_f, wts3_f, wts4_f, wtsL_f] <;> rfl)) rfl ?_
  refine dr (ro_eq (ro_ld_ref y25_ty23 rfl up_h (nle rfl)) (by simp only [pS, Value.cells, Nat.reduceAdd, jnE, beE, Int.toNat_natCast, toNat_suc, rep_iE, set_iE, hgj, addAt_f, subAt_f, devD_f, wts1_f, wts2_f, wts3_f, wts4_f, wtsL_f] <;> rfl)) rfl ?_
  refine dr (ro_move (up_m rfl (u4 rfl s9_6))) rfl <| dr (ro_eq (ro_ix y25_sl23 (up_m rfl up_h) up_h (by omega) (by first | (refine idx_map ?_; first | omega | (simp only [lnS]; omega)) | (refine idx_mapI ?_; first | omega | (simp only [lnS]; omega)) | (refine idx_mapN ?_; first | omega | (simp only [lnS]; omega)) | rfl)) (by simp only [pS, Value.cells, Nat.reduceAdd, jnE, beE, Int.toNat_natCast, toNat_suc, rep_iE, set_iE, hgj, addAt_f, subAt_f, devD_f, wts1_f, wts2_f, wts3_f, wts4_f, wtsL_f] <;> rfl)) rfl ?_
  refine dr (ro_eq (ro_fld_ref y25_fl87_0 rfl up_h) (by simp only [pS, Value.cells, Nat.reduceAdd, jnE, beE, Int.toNat_natCast, toNat_suc, rep_iE, set_iE, hgj, addAt_f, subAt_f, devD_f, wts1_f, wts2_f, wts3_f, wts4_f, wtsL_f] <;> rfl)) rfl ?_
  refine dr (ro_eq (ro_ld_ref y25_ty3 rfl up_h (nle rfl)) (by simp only [pS, Value.cells, Nat.reduceAdd, jnE, beE, Int.toNat_natCast, toNat_suc, rep_iE, set_iE, hgj, addAt_f, subAt_f, devD_f, wts1_f, wts2_f, wts3_f, wts4_f, wtsL_f] <;> rfl)) rfl ?_
  refine dr (ro_move (up_m rfl (u8 rfl s0_6))) rfl <| dr (ro_nilR up_h) rfl <| dr (ro_eq (ro_fld_ref y25_fl141_0 rfl up_h) (by simp only [pS, Value.cells, Nat.reduceAdd, jnE, beE, Int.toNat_natCast, toNat_suc, rep_iE, set_iE, hgj, addAt_f, subAt_f, devD_f, wts1_f, wts2_f, wts3_f, wts4_f, wtsL_f] <;> rfl)) rfl ?_
  refine dr (ro_eq (ro_fld_ref y25_fl26_2 rfl up_h) (by simp only [pS, Value.cells, Nat.reduceAdd, jnE, beE, Int.toNat_natCast, toNat_suc, rep_iE, set_iE, hgj, addAt_f, subAt_f, devD_f, wts1_f, wts2_f, wts3_f, wts4_f, wtsL_f] <;> rfl)) rfl ?_
  refine dr (ro_eq (ro_ld_ref y25_ty23 rfl up_h (nle rfl)) (by simp only [pS, Value.cells, Nat.reduceAdd, jnE, beE, Int.toNat_natCast, toNat_suc, rep_iE, set_iE, hgj, addAt_f, subAt_f, devD_f, wts1_f, wts2_f, wts3_f, wts4_f, wtsL_f] <;> rfl)) rfl ?_
  refine dr (ro_move (u2 rfl (u4 rfl (u8 rfl s11_6)))) rfl <| dr (ro_eq (ro_ix y25_sl23 (up_m rfl up_h) up_h (by omega) (by first | (refine idx_map ?_; first | omega | (simp only [lnS]; omega)) | (refine idx_mapI ?_; first | omega | (simp only [lnS]; omega)) | (refine idx_mapN ?_; first | omega | (simp only [lnS]; omega)) | rfl)) (by simp only [pS, Value.cells, Nat.reduceAdd, jnE, beE, Int.toNat_natCast, toNat_suc, rep_iE, set_iE, hgj, addAt_f, subAt_f, devD_f, wts1_f, wts2_f, wts3_f, wts4_f, wtsL_f] <;> rfl)) rfl ?_
  refine dr (ro_eq (ro_fld_ref y25_fl87_0 rfl up_h) (by simp only [pS, Value.cells, Nat.reduceAdd, jnE, beE, Int.toNat_natCast, toNat_suc, rep_iE, set_iE, hgj, addAt_f, subAt_f, devD_f, wts1_f, wts2_f, wts3_f, wts4_f, wtsL_f] <;> rfl)) rfl ?_
  refine dr (ro_eq (ro_ld_ref y25_ty3 rfl up_h (nle rfl)) (by simp only [pS, Value.cells, Nat.reduceAdd, jnE, beE, Int.toNat_natCast, toNat_suc, rep_iE, set_iE, hgj, addAt_f, subAt_f, devD_f, wts1_f, wts2_f, wts3_f, wts4_f, wtsL_f] <;> rfl)) rfl ?_
  refine dr (ro_assign (up_m rfl (u8 rfl up_h))) rfl <| dr (ro_assign (up_m rfl up_h)) rfl <| ds_nil <| ae11 (u4 rfl (u16 rfl s0_6)) (u4 rfl (u16 rfl s3_6)) (u4 rfl (u16 rfl s5_6)) (u4 rfl (u16 rfl s8_6)) (u4 rfl (u16 rfl s9_6)) (u4 rfl (u16 rfl s10_6)) (u4 rfl (u16 rfl s11_6)) (u4 rfl (u16 rfl s12_6)) (u4 rfl (u16 rfl s13_6)) (up_m rfl up_h) up_h ?_; clear s0_6 s10_6 s11_6 s12_6 s13_6 s3_6 s5_6 s8_6 s9_6; intro e_7 s0_7 s3_7 s5_7 s8_7 s9_7 s10_7 s11_7 s12_7 s13_7 s14_7 s15_7
  refine then_n <| aw_seq <| at_ <| ar (ro_move s14_7) rfl <| ar (ro_move (up_m rfl s15_7)) rfl ?_
  (refine ar (ro_mul' (up_m rfl up_h) up_h ?_) rfl ?_; · (unfold In64; omega))
  refine ar (ro_fld_ptr y25_fl28_0 rfl (up_m rfl (u2 rfl s5_7))) rfl <| ar (ro_eq (ro_ld_ptr y25_ty3 rfl mo0_2 up_h (nle rfl)) (by simp only [pS, Value.cells, Nat.reduceAdd, jnE, beE, Int.toNat_natCast, toNat_suc, rep_iE, set_iE, hgj, addAt_f, subAt_f, devD_f, wts1_f, wts2_f, wts3_f, wts4_f, wtsL_f] <;> rfl)) rfl ?_
  (refine ar (ro_mul' (u2 rfl up_h) up_h ?_) rfl ?_; · (unfold In64; omega))
  refine ar (ro_assign up_h) rfl <| ae12 (up_m rfl (u2 rfl (u4 rfl s0_7))) (up_m rfl (u2 rfl (u4 rfl s3_7))) (up_m rfl (u2 rfl (u4 rfl s5_7))) (up_m rfl (u2 rfl (u4 rfl s8_7))) (up_m rfl (u2 rfl (u4 rfl s9_7))) (up_m rfl (u2 rfl (u4 rfl s10_7))) (up_m rfl (u2 rfl (u4 rfl s11_7))) (up_m rfl (u2 rfl (u4 rfl s12_7))) (up_m rfl (u2 rfl (u4 rfl s13_7))) (up_m rfl (u2 rfl (u4 rfl s14_7))) (up_m rfl (u2 rfl (u4 rfl s15_7))) up_h ?_; clear s0_7 s10_7 s11_7 s12_7 s13_7 s14_7 s15_7 s3_7 s5_7 s8_7 s9_7; intro e_8 s0_8 s3_8 s5_8 s8_8 s9_8 s10_8 s11_8 s12_8 s13_8 s14_8 s15_8 s16_8
  refine then_n <| aw_seq <| at_ <| ar (ro_move s0_8) rfl <| ar (ro_nilR up_h) rfl <| ar (ro_eq (ro_fld_ref y25_fl141_0 rfl up_h) (by simp only [pS, Value.cells, Nat.reduceAdd, jnE, beE, Int.toNat_natCast, toNat_suc, rep_iE, set_iE, hgj, addAt_f, subAt_f, devD_f, wts1_f, wts2_f, wts3_f, wts4_f, wtsL_f] <;> rfl)) rfl ?_
  refine ar (ro_eq (ro_fld_ref y25_fl26_1 rfl up_h) (by simp only [pS, Value.cells, Nat.reduceAdd, jnE, beE, Int.toNat_natCast, toNat_suc, rep_iE, set_iE, hgj, addAt_f, subAt_f, devD_f, wts1_f, wts2_f, wts3_f, wts4_f, wtsL_f] <;> rfl)) rfl ?_
  refine ar (ro_eq (ro_ld_ref y25_ty22 rfl up_h (nle rfl)) (by simp only [pS, Value.cells, Nat.reduceAdd, jnE, beE, Int.toNat_natCast, toNat_suc, rep_iE, set_iE, hgj, addAt_f, subAt_f, devD_f, wts1_f, wts2_f, wts3_f, wts4_f, wtsL_f] <;> rfl)) rfl ?_
  refine ar (ro_eq (ro_len_row up_h rfl y25_sl22.1) (by simp only [lnS] <;> rfl)) rfl ?_
  refine al_stm (st_mk y25_sl49 rfl rfl ml_2 up_h up_h (by omega) (by omega)) trivial rfl (fun m_9 hm_9 => ?_)
  have mo2_9 := m_push hm_9 ml_2
  simp only [pS, Value.cells, Nat.reduceAdd, jnE, beE, Int.toNat_natCast, toNat_suc, rep_iE, set_iE, hgj, addAt_f, subAt_f, devD_f, wts1_f, wts2_f, wts3_f, wts4_f, wtsL_f] at mo2_9
  have mo1_9 := m_push_o hm_9 mo1_2
  have mo0_9 := m_push_o hm_9 mo0_2
  have ml_9 := m_push_l hm_9 ml_2
  have ml_9 : _ = 3 := ml_9
  clear hm_9 mo1_2 mo0_2
  refine ar (ro_assign up_h) rfl <| ae13 (u8 rfl s0_8) (u8 rfl s3_8) (u8 rfl s5_8) (u8 rfl s8_8) (u8 rfl s9_8) (u8 rfl s10_8) (u8 rfl s11_8) (u8 rfl s12_8) (u8 rfl s13_8) (u8 rfl s14_8) (u8 rfl s15_8) (u8 rfl s16_8) up_h ?_; clear s0_8 s10_8 s11_8 s12_8 s13_8 s14_8 s15_8 s16_8 s3_8 s5_8 s8_8 s9_8; intro e_10 s0_10 s3_10 s5_10 s8_10 s9_10 s10_10 s11_10 s12_10 s13_10 s14_10 s15_10 s16_10 s17_10
  refine then_n <| aw_seq <| at_ <| ar (ro_move s17_10) rfl <| ar (ro_move (up_m rfl s3_10)) rfl <| ar (ro_ix_own y25_sl49 mo2_9 (up_m rfl up_h) up_h (by omega) (by simp only [lnS] <;> omega)) rfl ?_
  refine ar (ro_eq (ro_ld_el y25_ty3 rfl mo2_9 up_h (nle rfl) (by first | (refine idx_map ?_; first | omega | (simp only [lnS]; omega)) | (refine idx_mapI ?_; first | omega | (simp only [lnS]; omega)) | (refine idx_mapN ?_; first | omega | (simp only [lnS]; omega)) | rfl)) (by simp only [pS, Value.cells, Nat.reduceAdd, jnE, beE, Int.toNat_natCast, toNat_suc, rep_iE, set_iE, hgj, addAt_f, subAt_f, devD_f, wts1_f, wts2_f, wts3_f, wts4_f, wtsL_f] <;> rfl)) rfl ?_
  refine ar (ro_move (u4 rfl s16_10)) rfl ?_
  (refine ar (ro_add' (up_m rfl up_h) up_h ?_) rfl ?_; · (unfold In64; omega))
  refine ar (ro_ix_own y25_sl49 mo2_9 (up_m rfl (u4 rfl up_h)) (u4 rfl up_h) (by omega) (by simp only [lnS] <;> omega)) rfl ?_
  refine al_stm (st_store_el up_h (up_m rfl up_h) rfl rfl rfl mo2_9 (Nat.add_zero _).symm (by first | (refine idx_map ?_; first | omega | (simp only [lnS]; omega)) | (refine idx_mapI ?_; first | omega | (simp only [lnS]; omega)) | (refine idx_mapN ?_; first | omega | (simp only [lnS]; omega)) | rfl) y25_sz3 rfl (nle rfl)) trivial rfl (fun m_11 hm_11 => ?_)
  have mo2_11 := m_set hm_11 mo2_9
  simp only [pS, Value.cells, Nat.reduceAdd, jnE, beE, Int.toNat_natCast, toNat_suc, rep_iE, set_iE, hgj, addAt_f, subAt_f, devD_f, wts1_f, wts2_f, wts3_f, wts4_f, wtsL_f] at mo2_11
  have mo1_11 := m_set_o hm_11 mo1_9 (by decide)
  have mo0_11 := m_set_o hm_11 mo0_9 (by decide)
  have ml_11 := m_set_l hm_11 ml_9
  clear hm_11 mo2_9 mo1_9 mo0_9
  refine ae12 (up_n (up_m rfl (u2 rfl (u4 rfl s0_10)))) (up_n (up_m rfl (u2 rfl (u4 rfl s5_10)))) (up_n (up_m rfl (u2 rfl (u4 rfl s8_10)))) (up_n (up_m rfl (u2 rfl (u4 rfl s9_10)))) (up_n (up_m rfl (u2 rfl (u4 rfl s10_10)))) (up_n (up_m rfl (u2 rfl (u4 rfl s11_10)))) (up_n (up_m rfl (u2 rfl (u4 rfl s12_10)))) (up_n (up_m rfl (u2 rfl (u4 rfl s13_10)))) (up_n (up_m rfl (u2 rfl (u4 rfl s14_10)))) (up_n (up_m rfl (u2 rfl (u4 rfl s15_10)))) (up_n (up_m rfl (u2 rfl (u4 rfl s16_10)))) (up_n (up_m rfl (u2 rfl (u4 rfl s17_10)))) ?_; clear s0_10 s10_10 s11_10 s12_10 s13_10 s14_10 s15_10 s16_10 s17_10 s3_10 s5_10 s8_10 s9_10; intro e_12 s0_12 s5_12 s8_12 s9_12 s10_12 s11_12 s12_12 s13_12 s14_12 s15_12 s16_12 s17_12
  refine then_n <| aw_seq <| aw_draw 16 (by kernel_rfl) (by kernel_rfl) (by kernel_rfl) (by kernel_rfl) ?_
  refine dr (ro_move s17_12) rfl <| dr (ro_move (up_m rfl s9_12)) rfl <| dr (ro_ix_own y25_sl49 mo2_11 (up_m rfl up_h) up_h (by omega) (by simp only [lnS] <;> omega)) rfl ?_
  refine dr (ro_eq (ro_ld_el y25_ty3 rfl mo2_11 up_h (nle rfl) (by first | (refine idx_map ?_; first | omega | (simp only [lnS]; omega)) | (refine idx_mapI ?_; first | omega | (simp only [lnS]; omega)) | (refine idx_mapN ?_; first | omega | (simp only [lnS]; omega)) | rfl)) (by simp only [pS, Value.cells, Nat.reduceAdd, jnE, beE, Int.toNat_natCast, toNat_suc, rep_iE, set_iE, hgj, addAt_f, subAt_f, devD_f, wts1_f, wts2_f, wts3_f, wts4_f, wtsL_f] <;> rfl)) rfl ?_
  refine dr (ro_fld_ptr y25_fl28_0 rfl (u4 rfl s5_12)) rfl <| dr (ro_eq (ro_ld_ptr y25_ty3 rfl mo0_11 up_h (nle rfl)) (by simp only [pS, Value.cells, Nat.reduceAdd, jnE, beE, Int.toNat_natCast, toNat_suc, rep_iE, set_iE, hgj, addAt_f, subAt_f, devD_f, wts1_f, wts2_f, wts3_f, wts4_f, wtsL_f] <;> rfl)) rfl ?_
  refine dr (ro_move (u2 rfl (u4 rfl s13_12))) rfl ?_
  (refine dr (ro_sub' (up_m rfl up_h) up_h ?_) rfl ?_; · (unfold In64; omega))
  refine dr (ro_move (u8 rfl s14_12)) rfl <| dr (ro_move (up_m rfl (u8 rfl s10_12))) rfl ?_
  (refine dr (ro_sub' (up_m rfl up_h) up_h ?_) rfl ?_; · (unfold In64; omega))
  (refine dr (ro_mul' (up_m rfl (u2 rfl up_h)) up_h ?_) rfl ?_; · (unfold In64; omega))
  refine dr (ro_move (u4 rfl (u8 rfl s15_12))) rfl ?_
  (refine dr (ro_mul' (up_m rfl up_h) up_h ?_) rfl ?_; · (unfold In64; omega))
  (refine dr (ro_sub' (u2 rfl (u8 rfl up_h)) up_h ?_) rfl ?_; · (unfold In64; omega))
  refine dr (ro_ix_own y25_sl49 mo2_11 (u2 rfl (u4 rfl (u8 rfl up_h))) (up_m rfl (u4 rfl (u8 rfl up_h))) (by omega) (by simp only [lnS] <;> omega)) rfl ?_
  refine ds_nil <| al_stm (st_store_el up_h (up_m rfl up_h) rfl rfl rfl mo2_11 (Nat.add_zero _).symm (by first | (refine idx_map ?_; first | omega | (simp only [lnS]; omega)) | (refine idx_mapI ?_; first | omega | (simp only [lnS]; omega)) | (refine idx_mapN ?_; first | omega | (simp only [lnS]; omega)) | rfl) y25_sz3 rfl (nle rfl)) trivial rfl (fun m_13 hm_13 => ?_)
  have mo2_13 := m_set hm_13 mo2_11
  simp only [pS, Value.cells, Nat.reduceAdd, jnE, beE, Int.toNat_natCast, toNat_suc, rep_iE, set_iE, hgj, addAt_f, subAt_f, devD_f, wts1_f, wts2_f, wts3_f, wts4_f, wtsL_f] at mo2_13
  have mo1_13 := m_set_o hm_13 mo1_11 (by decide)
  have mo0_13 := m_set_o hm_13 mo0_11 (by decide)
  have ml_13 := m_set_l hm_13 ml_11
  clear hm_13 mo2_11 mo1_11 mo0_11
  refine ae12 (up_n (u16 rfl s0_12)) (up_n (u16 rfl s5_12)) (up_n (u16 rfl s8_12)) (up_n (u16 rfl s9_12)) (up_n (u16 rfl s10_12)) (up_n (u16 rfl s11_12)) (up_n (u16 rfl s12_12)) (up_n (u16 rfl s13_12)) (up_n (u16 rfl s14_12)) (up_n (u16 rfl s15_12)) (up_n (u16 rfl s16_12)) (up_n (u16 rfl s17_12)) ?_; clear s0_12 s10_12 s11_12 s12_12 s13_12 s14_12 s15_12 s16_12 s17_12 s5_12 s8_12 s9_12; intro e_14 s0_14 s5_14 s8_14 s9_14 s10_14 s11_14 s12_14 s13_14 s14_14 s15_14 s16_14 s17_14
  refine then_n <| aw_seq <| aw_draw 15 (by kernel_rfl) (by kernel_rfl) (by kernel_rfl) (by kernel_rfl) ?_
  refine dr (ro_move s17_14) rfl <| dr (ro_move (up_m rfl s9_14)) rfl ?_
  (refine dr (ro_add' up_h ev_c ?_) rfl ?_; · (unfold In64; omega))
  refine dr (ro_ix_own y25_sl49 mo2_13 (u2 rfl up_h) up_h (by omega) (by simp only [lnS] <;> omega)) rfl ?_
  refine dr (ro_eq (ro_ld_el y25_ty3 rfl mo2_13 up_h (nle rfl) (by refine idx_map ?_; first | omega | (simp only [lnS]; omega))) (by simp only [pS, Value.cells, Nat.reduceAdd, jnE, beE, Int.toNat_natCast, toNat_suc, rep_iE, set_iE, hgj, addAt_f, subAt_f, devD_f, wts1_f, wts2_f, wts3_f, wts4_f, wtsL_f] <;> rfl)) rfl ?_
  refine dr (ro_fld_ptr y25_fl28_0 rfl (up_m rfl (u4 rfl s5_14))) rfl <| dr (ro_eq (ro_ld_ptr y25_ty3 rfl mo0_13 up_h (nle rfl)) (by simp only [pS, Value.cells, Nat.reduceAdd, jnE, beE, Int.toNat_natCast, toNat_suc, rep_iE, set_iE, hgj, addAt_f, subAt_f, devD_f, wts1_f, wts2_f, wts3_f, wts4_f, wtsL_f] <;> rfl)) rfl ?_
  refine dr (ro_move (up_m rfl (u2 rfl (u4 rfl s13_14)))) rfl ?_
  (refine dr (ro_sub' (up_m rfl up_h) up_h ?_) rfl ?_; · (unfold In64; omega))
  refine dr (ro_move (up_m rfl (u8 rfl s10_14))) rfl ?_
  (refine dr (ro_mul' (up_m rfl up_h) up_h ?_) rfl ?_; · (unfold In64; omega))
  refine dr (ro_move (up_m rfl (u2 rfl (u8 rfl s15_14)))) rfl ?_
  (refine dr (ro_mul' (up_m rfl up_h) up_h ?_) rfl ?_; · (unfold In64; omega))
  (refine dr (ro_sub' (u8 rfl up_h) up_h ?_) rfl ?_; · (unfold In64; omega))
  refine dr (ro_ix_own y25_sl49 mo2_13 (up_m rfl (u4 rfl (u8 rfl up_h))) (up_m rfl (u2 rfl (u8 rfl up_h))) (by omega) (by simp only [lnS] <;> omega)) rfl ?_
  refine ds_nil <| al_stm (st_store_el up_h (up_m rfl up_h) rfl rfl rfl mo2_13 (Nat.add_zero _).symm (by refine idx_map ?_; first | omega | (simp only [lnS]; omega)) y25_sz3 rfl (nle rfl)) trivial rfl (fun m_15 hm_15 => ?_)
  have mo2_15 := m_set hm_15 mo2_13
  simp only [pS, Value.cells, Nat.reduceAdd, jnE, beE, Int.toNat_natCast, toNat_suc, rep_iE, set_iE, hgj, addAt_f, subAt_f, devD_f, wts1_f, wts2_f, wts3_f, wts4_f, wtsL_f] at mo2_15
  have mo1_15 := m_set_o hm_15 mo1_13 (by decide)
  have mo0_15 := m_set_o hm_15 mo0_13 (by decide)
  have ml_15 := m_set_l hm_15 ml_13
  clear hm_15 mo2_13 mo1_13 mo0_13
  refine ae9 (up_n (up_m rfl (u2 rfl (u4 rfl (u8 rfl s0_14))))) (up_n (up_m rfl (u2 rfl (u4 rfl (u8 rfl s8_14))))) (up_n (up_m rfl (u2 rfl (u4 rfl (u8 rfl s11_14))))) (up_n (up_m rfl (u2 rfl (u4 rfl (u8 rfl s12_14))))) (up_n (up_m rfl (u2 rfl (u4 rfl (u8 rfl s13_14))))) (up_n (up_m rfl (u2 rfl (u4 rfl (u8 rfl s14_14))))) (up_n (up_m rfl (u2 rfl (u4 rfl (u8 rfl s15_14))))) (up_n (up_m rfl (u2 rfl (u4 rfl (u8 rfl s16_14))))) (up_n (up_m rfl (u2 rfl (u4 rfl (u8 rfl s17_14))))) ?_; clear s0_14 s10_14 s11_14 s12_14 s13_14 s14_14 s15_14 s16_14 s17_14 s5_14 s8_14 s9_14; intro e_16 s0_16 s8_16 s11_16 s12_16 s13_16 s14_16 s15_16 s16_16 s17_16
  refine then_n <| aw_seq <| at_ <| ar (ro_move s17_16) rfl <| ar (ro_move (up_m rfl s11_16)) rfl <| ar (ro_ix_own y25_sl49 mo2_15 (up_m rfl up_h) up_h (by omega) (by simp only [lnS] <;> omega)) rfl ?_
  refine ar (ro_eq (ro_ld_el y25_ty3 rfl mo2_15 up_h (nle rfl) (by first | (refine idx_map ?_; first | omega | (simp only [lnS]; omega)) | (refine idx_mapI ?_; first | omega | (simp only [lnS]; omega)) | (refine idx_mapN ?_; first | omega | (simp only [lnS]; omega)) | rfl)) (by simp only [pS, Value.cells, Nat.reduceAdd, jnE, beE, Int.toNat_natCast, toNat_suc, rep_iE, set_iE, hgj, addAt_f, subAt_f, devD_f, wts1_f, wts2_f, wts3_f, wts4_f, wtsL_f] <;> rfl)) rfl ?_
  refine ar (ro_move (u4 rfl s13_16)) rfl <| ar (ro_move (up_m rfl (u4 rfl s15_16))) rfl <| ar (ro_move (u2 rfl (u4 rfl s12_16))) rfl ?_
  (refine ar (ro_sub' (up_m rfl up_h) up_h ?_) rfl ?_; · (unfold In64; omega))
  (refine ar (ro_mul' (up_m rfl (u2 rfl up_h)) up_h ?_) rfl ?_; · (unfold In64; omega))
  refine ar (ro_move (up_m rfl (u8 rfl s14_16))) rfl ?_
  (refine ar (ro_mul' (up_m rfl up_h) up_h ?_) rfl ?_; · (unfold In64; omega))
  (refine ar (ro_sub' (up_m rfl (u2 rfl (u4 rfl up_h))) up_h ?_) rfl ?_; · (unfold In64; omega))
  refine ar (ro_ix_own y25_sl49 mo2_15 (up_m rfl (u2 rfl (u8 rfl up_h))) (u2 rfl (u8 rfl up_h)) (by omega) (by simp only [lnS] <;> omega)) rfl ?_
  refine al_stm (st_store_el up_h (up_m rfl up_h) rfl rfl rfl mo2_15 (Nat.add_zero _).symm (by first | (refine idx_map ?_; first | omega | (simp only [lnS]; omega)) | (refine idx_mapI ?_; first | omega | (simp only [lnS]; omega)) | (refine idx_mapN ?_; first | omega | (simp only [lnS]; omega)) | rfl) y25_sz3 rfl (nle rfl)) trivial rfl (fun m_17 hm_17 => ?_)
  have mo2_17 := m_set hm_17 mo2_15
  simp only [pS, Value.cells, Nat.reduceAdd, jnE, beE, Int.toNat_natCast, toNat_suc, rep_iE, set_iE, hgj, addAt_f, subAt_f, devD_f, wts1_f, wts2_f, wts3_f, wts4_f, wtsL_f] at mo2_17
  have mo1_17 := m_set_o hm_17 mo1_15 (by decide)
  have mo0_17 := m_set_o hm_17 mo0_15 (by decide)
  have ml_17 := m_set_l hm_17 ml_15
  clear hm_17 mo2_15 mo1_15 mo0_15
  refine ae8 (up_n (up_m rfl (u4 rfl (u8 rfl s0_16)))) (up_n (up_m rfl (u4 rfl (u8 rfl s8_16)))) (up_n (up_m rfl (u4 rfl (u8 rfl s11_16)))) (up_n (up_m rfl (u4 rfl (u8 rfl s12_16)))) (up_n (up_m rfl (u4 rfl (u8 rfl s13_16)))) (up_n (up_m rfl (u4 rfl (u8 rfl s14_16)))) (up_n (up_m rfl (u4 rfl (u8 rfl s16_16)))) (up_n (up_m rfl (u4 rfl (u8 rfl s17_16)))) ?_; clear s0_16 s11_16 s12_16 s13_16 s14_16 s15_16 s16_16 s17_16 s8_16; intro e_18 s0_18 s8_18 s11_18 s12_18 s13_18 s14_18 s16_18 s17_18
  refine then_n <| aw_seq <| at_ <| ar (ro_move s17_18) rfl <| ar (ro_move (up_m rfl s11_18)) rfl ?_
  (refine ar (ro_add' up_h ev_c ?_) rfl ?_; · (unfold In64; omega))
  refine ar (ro_ix_own y25_sl49 mo2_17 (u2 rfl up_h) up_h (by omega) (by simp only [lnS] <;> omega)) rfl ?_
  refine ar (ro_eq (ro_ld_el y25_ty3 rfl mo2_17 up_h (nle rfl) (by refine idx_map ?_; first | omega | (simp only [lnS]; omega))) (by simp only [pS, Value.cells, Nat.reduceAdd, jnE, beE, Int.toNat_natCast, toNat_suc, rep_iE, set_iE, hgj, addAt_f, subAt_f, devD_f, wts1_f, wts2_f, wts3_f, wts4_f, wtsL_f] <;> rfl)) rfl ?_
  refine ar (ro_move (up_m rfl (u4 rfl s13_18))) rfl <| ar (ro_move (u2 rfl (u4 rfl s12_18))) rfl ?_
  (refine ar (ro_mul' (up_m rfl up_h) up_h ?_) rfl ?_; · (unfold In64; omega))
  refine ar (ro_move (u8 rfl s14_18)) rfl ?_
  (refine ar (ro_mul' (up_m rfl up_h) up_h ?_) rfl ?_; · (unfold In64; omega))
  (refine ar (ro_sub' (up_m rfl (u4 rfl up_h)) up_h ?_) rfl ?_; · (unfold In64; omega))
  refine ar (ro_ix_own y25_sl49 mo2_17 (u2 rfl (u8 rfl up_h)) (u8 rfl up_h) (by omega) (by simp only [lnS] <;> omega)) rfl ?_
  refine al_stm (st_store_el up_h (up_m rfl up_h) rfl rfl rfl mo2_17 (Nat.add_zero _).symm (by refine idx_map ?_; first | omega | (simp only [lnS]; omega)) y25_sz3 rfl (nle rfl)) trivial rfl (fun m_19 hm_19 => ?_)
  have mo2_19 := m_set hm_19 mo2_17
  simp only [pS, Value.cells, Nat.reduceAdd, jnE, beE, Int.toNat_natCast, toNat_suc, rep_iE, set_iE, hgj, addAt_f, subAt_f, devD_f, wts1_f, wts2_f, wts3_f, wts4_f, wtsL_f] at mo2_19
  have mo1_19 := m_set_o hm_19 mo1_17 (by decide)
  have mo0_19 := m_set_o hm_19 mo0_17 (by decide)
  have ml_19 := m_set_l hm_19 ml_17
  clear hm_19 mo2_17 mo1_17 mo0_17
  refine ae4 (up_n (u4 rfl (u8 rfl s0_18))) (up_n (u4 rfl (u8 rfl s8_18))) (up_n (u4 rfl (u8 rfl s16_18))) (up_n (u4 rfl (u8 rfl s17_18))) ?_; clear s0_18 s11_18 s12_18 s13_18 s14_18 s16_18 s17_18 s8_18; intro e_20 s0_20 s8_20 s16_20 s17_20
  refine then_n <| aw_seq <| at_ <| ar (ro_build evP_nil y25_bz39 y25_bu39 y25_bp39 rfl) rfl ?_
  refine al_stm (st_alloc y25_az39 rfl ml_19) trivial rfl (fun m_21 hm_21 => ?_)
  have mo3_21 := m_push hm_21 ml_19
  simp only [pS, Value.cells, Nat.reduceAdd, jnE, beE, Int.toNat_natCast, toNat_suc, rep_iE, set_iE, hgj, addAt_f, subAt_f, devD_f, wts1_f, wts2_f, wts3_f, wts4_f, wtsL_f] at mo3_21
  have mo2_21 := m_push_o hm_21 mo2_19
  have mo1_21 := m_push_o hm_21 mo1_19
  have mo0_21 := m_push_o hm_21 mo0_19
  have ml_21 := m_push_l hm_21 ml_19
  have ml_21 : _ = 4 := ml_21
  clear hm_21 mo2_19 mo1_19 mo0_19
  refine al_stm (st_store up_h (up_m rfl up_h) rfl rfl mo3_21 y25_sz39 rfl (nle rfl)) trivial rfl (fun m_22 hm_22 => ?_)
  have mo3_22 := m_set hm_22 mo3_21
  simp only [pS, Value.cells, Nat.reduceAdd, jnE, beE, Int.toNat_natCast, toNat_suc, rep_iE, set_iE, hgj, addAt_f, subAt_f, devD_f, wts1_f, wts2_f, wts3_f, wts4_f, wtsL_f] at mo3_22
  have mo2_22 := m_set_o hm_22 mo2_21 (by decide)
  have mo1_22 := m_set_o hm_22 mo1_21 (by decide)
  have mo0_22 := m_set_o hm_22 mo0_21 (by decide)
  have ml_22 := m_set_l hm_22 ml_21
  clear hm_22 mo3_21 mo2_21 mo1_21 mo0_21
  refine ae5 (up_n (u2 rfl s0_20)) (up_n (u2 rfl s8_20)) (up_n (u2 rfl s16_20)) (up_n (u2 rfl s17_20)) (up_n up_h) ?_; clear s0_20 s16_20 s17_20 s8_20; intro e_23 s0_23 s8_23 s16_23 s17_23 s18_23
  refine then_n <| aw_seq <| aw_seq <| at_ <| ar (ro_move s17_23) rfl <| ar (ro_eq (ro_len_own up_h mo2_22 rfl y25_sl49.1) (by simp only [lnS] <;> rfl)) rfl ?_
  refine ar (ro_move ev_c) rfl <| ae7 (up_m rfl (u2 rfl s0_23)) (up_m rfl (u2 rfl s8_23)) (up_m rfl (u2 rfl s16_23)) (up_m rfl (u2 rfl s18_23)) (u2 rfl up_h) (up_m rfl up_h) up_h ?_; clear s0_23 s16_23 s17_23 s18_23 s8_23; intro e_24 s0_24 s8_24 s16_24 s18_24 s143_24 s144_24 s145_24
  refine then_n <| aw_block <| aw_loop (S := (Int × Int × Int)) (fun s e mem => match s with | ⟨i, lo, hi⟩ => (evA e (.tmp 145) = .v (.int .i64 i)) ∧ (evA e (.tmp 0) = evA e_24 (.tmp 0)) ∧ (evA e (.tmp 8) = evA e_24 (.tmp 8)) ∧ (evA e (.tmp 16) = evA e_24 (.tmp 16)) ∧ (evA e (.tmp 18) = evA e_24 (.tmp 18)) ∧ (evA e (.tmp 143) = evA e_24 (.tmp 143)) ∧ (evA e (.tmp 144) = evA e_24 (.tmp 144)) ∧ (mem[3]? = some (.box 39 [mA lo, mA hi])) ∧ (mem[2]? = m_22[2]?) ∧ (mem[1]? = m_22[1]?) ∧ (mem[0]? = m_22[0]?) ∧ (∃ n, mem.length = n ∧ 4 ≤ n) ∧ ((0 ≤ i ∧ i ≤ l.js.length ∧ lo = devS loF (wtsL l L p j) l.js i.toNat ∧ hi = devS hiF (wtsL l L p j) l.js i.toNat))) (fun s => match s with | ⟨i, lo, hi⟩ => (l.js.length - i).toNat) ⟨_, _, _⟩ ⟨s145_24, rfl, rfl, rfl, rfl, rfl, rfl, mo3_22, rfl, rfl, rfl, ⟨_, ml_22, Nat.le_refl _⟩, ?_⟩ ?_
  · (exact ⟨by omega, by omega, rfl, rfl⟩)
  · rintro ⟨i, lo, hi⟩ e_25 m_25 ⟨s145_25, k0_25, k8_25, k16_25, k18_25, k143_25, k144_25, mo3_25, mk2_25, mk1_25, mk0_25, ⟨n_25, ml_25, hn_25⟩, hinv⟩
    have s0_25 := k0_25.trans s0_24
    have s8_25 := k8_25.trans s8_24
    have s16_25 := k16_25.trans s16_24
    have s18_25 := k18_25.trans s18_24
    have s143_25 := k143_25.trans s143_24
    have s144_25 := k144_25.trans s144_24
    have mo2_25 := mk2_25.trans mo2_22
    have mo1_25 := mk1_25.trans mo1_22
    have mo0_25 := mk0_25.trans mo0_22
    (obtain ⟨q1, q2, q3, q4⟩ := hinv)
    refine aw_seq <| at_ <| ar (ro_lss s145_25 s144_25) rfl <| ae8 (up_m rfl s0_25) (up_m rfl s8_25) (up_m rfl s16_25) (up_m rfl s18_25) (up_m rfl s143_25) (up_m rfl s144_25) (up_m rfl s145_25) up_h ?_; clear s0_25 s143_25 s144_25 s145_25 s16_25 s18_25 s8_25; intro e_26 s0_26 s8_26 s16_26 s18_26 s143_26 s144_26 s145_26 s146_26
    refine then_n <| aw_seq <| aw_case s146_26 (fun hq_27 => ?_) (fun hq_27 => ?_)
    ·replace hq_27 := bt hq_27
     (have j2 := h.jnt i.toNat (by omega); have w1 := absP_get (ws := wtsL l L p j) (n := l.js.length) (i := i.toNat) (by omega); obtain ⟨f1, f2, f3, f4, f5⟩ := fF_bd (w := (wtsL l L p j).getD i.toNat default) (j := l.js.getD i.toNat default) (Nat.le_trans w1 s5) j2.1 ⟨j2.2.2.1, j2.2.2.2.1, j2.2.2.2.2⟩; clear w1; replace f3 := nat2 f3; replace f4 := nat2 f4; replace f5 := nat2 f5; clear f1 f2; have w2 := dev_in h (.inl rfl) s5 (n := i.toNat) (by omega); have w3 := dev_in h (.inr rfl) s5 (n := i.toNat) (by omega))
     refine aw_skip <| then_n <| aw_seq <| aw_block <| aw_seq <| at_ <| ar (ro_move s145_26) rfl <| ar (ro_ix_own y25_sl49 mo2_25 (up_m rfl s143_26) (up_m rfl s145_26) (by omega) (by simp only [lnS] <;> omega)) rfl ?_
     refine ar (ro_eq (ro_ld_el y25_ty3 rfl mo2_25 up_h (nle rfl) (by first | (refine idx_map ?_; first | omega | (simp only [lnS]; omega)) | (refine idx_mapI ?_; first | omega | (simp only [lnS]; omega)) | (refine idx_mapN ?_; first | omega | (simp only [lnS]; omega)) | rfl)) (by simp only [pS, Value.cells, Nat.reduceAdd, jnE, beE, Int.toNat_natCast, toNat_suc, rep_iE, set_iE, hgj, addAt_f, subAt_f, devD_f, wts1_f, wts2_f, wts3_f, wts4_f, wtsL_f] <;> rfl)) rfl ?_
     refine ar (ro_assign (u2 rfl up_h)) rfl <| ar (ro_assign (up_m rfl up_h)) rfl <| ae9 (up_m rfl (u4 rfl s0_26)) (up_m rfl (u4 rfl s8_26)) (up_m rfl (u4 rfl s16_26)) (up_m rfl (u4 rfl s18_26)) (up_m rfl up_h) up_h (up_m rfl (u4 rfl s143_26)) (up_m rfl (u4 rfl s144_26)) (up_m rfl (u4 rfl s145_26)) ?_; clear s0_26 s143_26 s144_26 s145_26 s146_26 s16_26 s18_26 s8_26; intro e_28 s0_28 s8_28 s16_28 s18_28 s19_28 s20_28 s143_28 s144_28 s145_28
     refine then_n <| aw_seq <| at_ <| ar (ro_move s0_28) rfl <| ar (ro_nilR up_h) rfl <| ar (ro_eq (ro_fld_ref y25_fl141_0 rfl up_h) (by simp only [pS, Value.cells, Nat.reduceAdd, jnE, beE, Int.toNat_natCast, toNat_suc, rep_iE, set_iE, hgj, addAt_f, subAt_f, devD_f, wts1_f, wts2_f, wts3_f, wts4_f, wtsL_f] <;> rfl)) rfl ?_
     refine ar (ro_eq (ro_fld_ref y25_fl26_1 rfl up_h) (by simp only [pS, Value.cells, Nat.reduceAdd, jnE, beE, Int.toNat_natCast, toNat_suc, rep_iE, set_iE, hgj, addAt_f, subAt_f, devD_f, wts1_f, wts2_f, wts3_f, wts4_f, wtsL_f] <;> rfl)) rfl ?_
     refine ar (ro_eq (ro_ld_ref y25_ty22 rfl up_h (nle rfl)) (by simp only [pS, Value.cells, Nat.reduceAdd, jnE, beE, Int.toNat_natCast, toNat_suc, rep_iE, set_iE, hgj, addAt_f, subAt_f, devD_f, wts1_f, wts2_f, wts3_f, wts4_f, wtsL_f] <;> rfl)) rfl ?_
     refine ar (ro_move (up_m rfl (u4 rfl s19_28))) rfl <| ar (ro_eq (ro_ix y25_sl22 (up_m rfl up_h) up_h (by omega) (by first | (refine idx_map ?_; first | omega | (simp only [lnS]; omega)) | (refine idx_mapI ?_; first | omega | (simp only [lnS]; omega)) | (refine idx_mapN ?_; first | omega | (simp only [lnS]; omega)) | rfl)) (by simp only [pS, Value.cells, Nat.reduceAdd, jnE, beE, Int.toNat_natCast, toNat_suc, rep_iE, set_iE, hgj, addAt_f, subAt_f, devD_f, wts1_f, wts2_f, wts3_f, wts4_f, wtsL_f] <;> rfl)) rfl ?_
     refine ar (ro_eq (ro_ld_ref y25_ty70 rfl up_h (nle rfl)) (by simp only [pS, Value.cells, Nat.reduceAdd, jnE, beE, Int.toNat_natCast, toNat_suc, rep_iE, set_iE, hgj, addAt_f, subAt_f, devD_f, wts1_f, wts2_f, wts3_f, wts4_f, wtsL_f] <;> rfl)) rfl ?_
     refine al_stm (st_alloc y25_az70 rfl ml_25) trivial rfl (fun m_29 hm_29 => ?_)
     have mon_25_29 := m_push hm_29 ml_25
     simp only [pS, Value.cells, Nat.reduceAdd, jnE, beE, Int.toNat_natCast, toNat_suc, rep_iE, set_iE, hgj, addAt_f, subAt_f, devD_f, wts1_f, wts2_f, wts3_f, wts4_f, wtsL_f] at mon_25_29
     have mo3_29 := m_push_o hm_29 mo3_25
     have mo2_29 := m_push_o hm_29 mo2_25
     have mo1_29 := m_push_o hm_29 mo1_25
     have mo0_29 := m_push_o hm_29 mo0_25
     have ml_29 := m_push_l hm_29 ml_25
     clear hm_29 mo3_25 mo2_25 mo1_25 mo0_25
     refine al_stm (st_store up_h (up_m rfl up_h) rfl rfl mon_25_29 y25_sz70 rfl (nle rfl)) trivial rfl (fun m_30 hm_30 => ?_)
     have mon_25_30 := m_set hm_30 mon_25_29
     simp only [pS, Value.cells, Nat.reduceAdd, jnE, beE, Int.toNat_natCast, toNat_suc, rep_iE, set_iE, hgj, addAt_f, subAt_f, devD_f, wts1_f, wts2_f, wts3_f, wts4_f, wtsL_f] at mon_25_30
     have mo3_30 := m_set_o hm_30 mo3_29 (by omega)
     have mo2_30 := m_set_o hm_30 mo2_29 (by omega)
     have mo1_30 := m_set_o hm_30 mo1_29 (by omega)
     have mo0_30 := m_set_o hm_30 mo0_29 (by omega)
     have ml_30 := m_set_l hm_30 ml_29
     clear hm_30 mon_25_29 mo3_29 mo2_29 mo1_29 mo0_29
     refine ae9 (up_n (up_m rfl (u8 rfl s0_28))) (up_n (up_m rfl (u8 rfl s8_28))) (up_n (up_m rfl (u8 rfl s16_28))) (up_n (up_m rfl (u8 rfl s18_28))) (up_n (up_m rfl (u8 rfl s20_28))) (up_n up_h) (up_n (up_m rfl (u8 rfl s143_28))) (up_n (up_m rfl (u8 rfl s144_28))) (up_n (up_m rfl (u8 rfl s145_28))) ?_; clear s0_28 s143_28 s144_28 s145_28 s16_28 s18_28 s19_28 s20_28 s8_28; intro e_31 s0_31 s8_31 s16_31 s18_31 s20_31 s21_31 s143_31 s144_31 s145_31
     refine then_n <| aw_seq <| aw_draw 12 (by kernel_rfl) (by kernel_rfl) (by kernel_rfl) (by kernel_rfl) ?_
     refine dr (ro_move s20_31) rfl <| dr (ro_fld_ptr y25_fl70_2 rfl (up_m rfl s21_31)) rfl <| dr (ro_fld_ptr y25_fl39_0 rfl up_h) rfl <| dr (ro_eq (ro_ld_ptr y25_ty3 rfl mon_25_30 up_h (nle rfl)) (by simp only [pS, Value.cells, Nat.reduceAdd, jnE, beE, Int.toNat_natCast, toNat_suc, rep_iE, set_iE, hgj, addAt_f, subAt_f, devD_f, wts1_f, wts2_f, wts3_f, wts4_f, wtsL_f] <;> rfl)) rfl ?_
     (refine dr (ro_mul' (up_m rfl (u2 rfl up_h)) up_h ?_) rfl ?_; · (unfold In64; omega))
     refine dr (ro_move (up_m rfl (u4 rfl s20_31))) rfl <| dr (ro_fld_ptr y25_fl70_2 rfl (u2 rfl (u4 rfl s21_31))) rfl <| dr (ro_fld_ptr y25_fl39_1 rfl up_h) rfl <| dr (ro_eq (ro_ld_ptr y25_ty3 rfl mon_25_30 up_h (nle rfl)) (by simp only [pS, Value.cells, Nat.reduceAdd, jnE, beE, Int.toNat_natCast, toNat_suc, rep_iE, set_iE, hgj, addAt_f, subAt_f, devD_f, wts1_f, wts2_f, wts3_f, wts4_f, wtsL_f] <;> rfl)) rfl ?_
     (refine dr (ro_mul' (up_m rfl (u2 rfl up_h)) up_h ?_) rfl ?_; · (unfold In64; omega))
     refine dr (ro_assign (up_m rfl (u4 rfl up_h))) rfl <| dr (ro_assign (up_m rfl up_h)) rfl <| ds_nil <| ae11 (u4 rfl (u8 rfl s0_31)) (u4 rfl (u8 rfl s8_31)) (u4 rfl (u8 rfl s16_31)) (u4 rfl (u8 rfl s18_31)) (u4 rfl (u8 rfl s20_31)) (u4 rfl (u8 rfl s21_31)) (up_m rfl up_h) up_h (u4 rfl (u8 rfl s143_31)) (u4 rfl (u8 rfl s144_31)) (u4 rfl (u8 rfl s145_31)) ?_; clear s0_31 s143_31 s144_31 s145_31 s16_31 s18_31 s20_31 s21_31 s8_31; intro e_32 s0_32 s8_32 s16_32 s18_32 s20_32 s21_32 s22_32 s23_32 s143_32 s144_32 s145_32
     refine then_n <| aw_seq <| at_ <| ar (ro_fld_ptr y25_fl39_0 rfl s18_32) rfl <| ar (ro_eq (ro_ld_ptr y25_ty3 rfl mo3_30 up_h (nle rfl)) (by simp only [pS, Value.cells, Nat.reduceAdd, jnE, beE, Int.toNat_natCast, toNat_suc, rep_iE, set_iE, hgj, addAt_f, subAt_f, devD_f, wts1_f, wts2_f, wts3_f, wts4_f, wtsL_f] <;> rfl)) rfl ?_
     refine ar (ro_move (u2 rfl s20_32)) rfl <| ar (ro_fld_ptr y25_fl70_0 rfl (up_m rfl (u2 rfl s21_32))) rfl <| ar (ro_eq (ro_ld_ptr y25_ty3 rfl mon_25_30 up_h (nle rfl)) (by simp only [pS, Value.cells, Nat.reduceAdd, jnE, beE, Int.toNat_natCast, toNat_suc, rep_iE, set_iE, hgj, addAt_f, subAt_f, devD_f, wts1_f, wts2_f, wts3_f, wts4_f, wtsL_f] <;> rfl)) rfl ?_
     (refine ar (ro_mul' (u2 rfl up_h) up_h ?_) rfl ?_; · (unfold In64; omega))
     refine ar (ro_move (u2 rfl (u4 rfl s22_32))) rfl <| ar (ro_move (up_m rfl (u2 rfl (u4 rfl s23_32)))) rfl <| ar (ro_min (up_m rfl up_h) up_h) rfl ?_
     (refine ar (ro_add' (up_m rfl (u2 rfl up_h)) up_h ?_) rfl ?_; · (unfold In64; omega))
     (refine ar (ro_add' (u8 rfl up_h) up_h ?_) rfl ?_; · (unfold In64; omega))
     refine ar (ro_fld_ptr y25_fl39_0 rfl (up_m rfl (u2 rfl (u8 rfl s18_32)))) rfl <| al_stm (st_store up_h (up_m rfl up_h) rfl rfl mo3_30 y25_sz3 rfl (nle rfl)) trivial rfl (fun m_33 hm_33 => ?_)
     have mo3_33 := m_set hm_33 mo3_30
     simp only [pS, Value.cells, Nat.reduceAdd, jnE, beE, Int.toNat_natCast, toNat_suc, rep_iE, set_iE, hgj, addAt_f, subAt_f, devD_f, wts1_f, wts2_f, wts3_f, wts4_f, wtsL_f] at mo3_33
     have mon_25_33 := m_set_o hm_33 mon_25_30 (by omega)
     have mo2_33 := m_set_o hm_33 mo2_30 (by decide)
     have mo1_33 := m_set_o hm_33 mo1_30 (by decide)
     have mo0_33 := m_set_o hm_33 mo0_30 (by decide)
     have ml_33 := m_set_l hm_33 ml_30
     clear hm_33 mon_25_30 mo3_30 mo2_30 mo1_30 mo0_30
     refine ae11 (up_n (u4 rfl (u8 rfl s0_32))) (up_n (u4 rfl (u8 rfl s8_32))) (up_n (u4 rfl (u8 rfl s16_32))) (up_n (u4 rfl (u8 rfl s18_32))) (up_n (u4 rfl (u8 rfl s20_32))) (up_n (u4 rfl (u8 rfl s21_32))) (up_n (u4 rfl (u8 rfl s22_32))) (up_n (u4 rfl (u8 rfl s23_32))) (up_n (u4 rfl (u8 rfl s143_32))) (up_n (u4 rfl (u8 rfl s144_32))) (up_n (u4 rfl (u8 rfl s145_32))) ?_; clear s0_32 s143_32 s144_32 s145_32 s16_32 s18_32 s20_32 s21_32 s22_32 s23_32 s8_32; intro e_34 s0_34 s8_34 s16_34 s18_34 s20_34 s21_34 s22_34 s23_34 s143_34 s144_34 s145_34
     refine then_n <| at_ <| ar (ro_fld_ptr y25_fl39_1 rfl s18_34) rfl <| ar (ro_eq (ro_ld_ptr y25_ty3 rfl mo3_33 up_h (nle rfl)) (by simp only [pS, Value.cells, Nat.reduceAdd, jnE, beE, Int.toNat_natCast, toNat_suc, rep_iE, set_iE, hgj, addAt_f, subAt_f, devD_f, wts1_f, wts2_f, wts3_f, wts4_f, wtsL_f] <;> rfl)) rfl ?_
     refine ar (ro_move (u2 rfl s20_34)) rfl <| ar (ro_fld_ptr y25_fl70_0 rfl (up_m rfl (u2 rfl s21_34))) rfl <| ar (ro_eq (ro_ld_ptr y25_ty3 rfl mon_25_33 up_h (nle rfl)) (by simp only [pS, Value.cells, Nat.reduceAdd, jnE, beE, Int.toNat_natCast, toNat_suc, rep_iE, set_iE, hgj, addAt_f, subAt_f, devD_f, wts1_f, wts2_f, wts3_f, wts4_f, wtsL_f] <;> rfl)) rfl ?_
     (refine ar (ro_mul' (u2 rfl up_h) up_h ?_) rfl ?_; · (unfold In64; omega))
     refine ar (ro_move (u2 rfl (u4 rfl s22_34))) rfl <| ar (ro_move (up_m rfl (u2 rfl (u4 rfl s23_34)))) rfl <| ar (ro_max (up_m rfl up_h) up_h) rfl ?_
     (refine ar (ro_add' (up_m rfl (u2 rfl up_h)) up_h ?_) rfl ?_; · (unfold In64; omega))
     (refine ar (ro_add' (u8 rfl up_h) up_h ?_) rfl ?_; · (unfold In64; omega))
     refine ar (ro_fld_ptr y25_fl39_1 rfl (up_m rfl (u2 rfl (u8 rfl s18_34)))) rfl <| al_stm (st_store up_h (up_m rfl up_h) rfl rfl mo3_33 y25_sz3 rfl (nle rfl)) trivial rfl (fun m_35 hm_35 => ?_)
     have mo3_35 := m_set hm_35 mo3_33
     simp only [pS, Value.cells, Nat.reduceAdd, jnE, beE, Int.toNat_natCast, toNat_suc, rep_iE, set_iE, hgj, addAt_f, subAt_f, devD_f, wts1_f, wts2_f, wts3_f, wts4_f, wtsL_f] at mo3_35
     have mon_25_35 := m_set_o hm_35 mon_25_33 (by omega)
     have mo2_35 := m_set_o hm_35 mo2_33 (by decide)
     have mo1_35 := m_set_o hm_35 mo1_33 (by decide)
     have mo0_35 := m_set_o hm_35 mo0_33 (by decide)
     have ml_35 := m_set_l hm_35 ml_33
     clear hm_35 mo3_33 mon_25_33 mo2_33 mo1_33 mo0_33
     refine ae7 (up_n (u4 rfl (u8 rfl s0_34))) (up_n (u4 rfl (u8 rfl s8_34))) (up_n (u4 rfl (u8 rfl s16_34))) (up_n (u4 rfl (u8 rfl s18_34))) (up_n (u4 rfl (u8 rfl s143_34))) (up_n (u4 rfl (u8 rfl s144_34))) (up_n (u4 rfl (u8 rfl s145_34))) ?_; clear s0_34 s143_34 s144_34 s145_34 s16_34 s18_34 s20_34 s21_34 s22_34 s23_34 s8_34; intro e_36 s0_36 s8_36 s16_36 s18_36 s143_36 s144_36 s145_36
     refine block_n <| then_n <| at_ ?_
     (refine ar (ro_add' s145_36 ev_c ?_) rfl ?_; · (unfold In64; omega))
     refine ar (ro_move up_h) rfl <| ae7 (u2 rfl s0_36) (u2 rfl s8_36) (u2 rfl s16_36) (u2 rfl s18_36) (u2 rfl s143_36) (u2 rfl s144_36) up_h ?_; clear s0_36 s143_36 s144_36 s145_36 s16_36 s18_36 s8_36; intro e_37 s0_37 s8_37 s16_37 s18_37 s143_37 s144_37 s145_37
     refine then_n <| ⟨⟨_, _, _⟩, ⟨s145_37, (s0_37.trans s0_24.symm), (s8_37.trans s8_24.symm), (s16_37.trans s16_24.symm), (s18_37.trans s18_24.symm), (s143_37.trans s143_24.symm), (s144_37.trans s144_24.symm), mo3_35, (mo2_35.trans mo2_22.symm), (mo1_35.trans mo1_22.symm), (mo0_35.trans mo0_22.symm), ⟨_, ml_35, by omega⟩, ?_⟩, ?_⟩
     · (refine ⟨by omega, by omega, ?_, ?_⟩ <;> (rw [show (i + 1).toNat = i.toNat + 1 by omega]; first | (rw [q3]; rfl) | (rw [q4]; rfl)))
     · ((try dsimp only); omega)
    replace hq_27 := bf hq_27
    (have hi' : i.toNat = l.js.length := (by omega); rw [hi'] at q3 q4; have w2 := dev_in h (.inl rfl) s5 (n := l.js.length) (Nat.le_refl _); have w3 := dev_in h (.inr rfl) s5 (n := l.js.length) (Nat.le_refl _); have w5 := ediv_bd (n := -hi) d0 (by omega))
    refine aw_exit <| then_x <| then_x <| block_hit <| then_n <| aw_seq <| aw_draw 11 (by kernel_rfl) (by kernel_rfl) (by kernel_rfl) (by kernel_rfl) ?_
    refine dr (ro_fld_ptr y25_fl39_0 rfl s18_26) rfl <| dr (ro_eq (ro_ld_ptr y25_ty3 rfl mo3_25 up_h (nle rfl)) (by simp only [pS, Value.cells, Nat.reduceAdd, jnE, beE, Int.toNat_natCast, toNat_suc, rep_iE, set_iE, hgj, addAt_f, subAt_f, devD_f, wts1_f, wts2_f, wts3_f, wts4_f, wtsL_f] <;> rfl)) rfl ?_
    refine dr (ro_move (u2 rfl s16_26)) rfl <| dr (ro_call (evL_cons (up_m rfl up_h) (evL_cons up_h evL_nil)) rfl (yFloor_ok _ _ d0 (by omega)) y25_hcf132) rfl ?_
    refine dr (ro_fld_ptr y25_fl39_1 rfl (u4 rfl s18_26)) rfl <| dr (ro_eq (ro_ld_ptr y25_ty3 rfl mo3_25 up_h (nle rfl)) (by simp only [pS, Value.cells, Nat.reduceAdd, jnE, beE, Int.toNat_natCast, toNat_suc, rep_iE, set_iE, hgj, addAt_f, subAt_f, devD_f, wts1_f, wts2_f, wts3_f, wts4_f, wtsL_f] <;> rfl)) rfl ?_
    (refine dr (ro_neg' up_h ?_) rfl ?_; · (unfold In64; omega))
    refine dr (ro_move (up_m rfl (u2 rfl (u4 rfl s16_26)))) rfl <| dr (ro_call (evL_cons (up_m rfl up_h) (evL_cons up_h evL_nil)) rfl (yFloor_ok _ _ d0 (by omega)) y25_hcf132) rfl ?_
    refine dr (ro_neg up_h) rfl <| dr (ro_build (evP_cons (u2 rfl (u4 rfl up_h)) (evP_cons up_h evP_nil)) y25_bz39 y25_bu39 y25_bp39 rfl) rfl ?_
    refine ds_nil <| al_stm (st_store (up_m rfl (u2 rfl (u8 rfl s8_26))) up_h rfl rfl mo1_25 y25_sz39 rfl (nle rfl)) trivial rfl (fun m_38 hm_38 => ?_)
    have mo1_38 := m_set hm_38 mo1_25
    simp only [pS, Value.cells, Nat.reduceAdd, jnE, beE, Int.toNat_natCast, toNat_suc, rep_iE, set_iE, hgj, addAt_f, subAt_f, devD_f, wts1_f, wts2_f, wts3_f, wts4_f, wtsL_f] at mo1_38
    have mo3_38 := m_set_o hm_38 mo3_25 (by decide)
    have mo2_38 := m_set_o hm_38 mo2_25 (by decide)
    have mo0_38 := m_set_o hm_38 mo0_25 (by decide)
    have ml_38 := m_set_l hm_38 ml_25
    clear hm_38 mo3_25 mo2_25 mo1_25 mo0_25
    refine ae1 (up_n (up_m rfl (u2 rfl (u8 rfl s8_26)))) ?_; clear s0_26 s143_26 s144_26 s145_26 s146_26 s16_26 s18_26 s8_26; intro e_39 s8_39
    refine then_n <| aw_ret <| ret1 (.inr rfl) (by kernel_rfl) (resV_cell s8_39 mo1_38 y25_ty39 (nle rfl) (by simp)) (vw_r (.ro _ rfl)) ?_
    clear s8_39 mo1_38 mo3_38 mo2_38 mo0_38 ml_38
    (rw [q4] at w5; rw [q3, q4, wrap_in (by unfold In64; omega)]; rfl)
end Go.Proofs.Ytonjcljnpcmenaa

/- Contracts of chapter 1: the joints beneath a pose; the deviation at one. No conditions on a program. -/
namespace Go.Proofs.Ytonjcljnpcmenaa
open Go Go.RowKit Go.Proofs
set_option linter.unusedSimpArgs false
set_option linter.unusedVariables false
theorem y26_az124 : (Try.prog.info? 124).bind (·.zero) = some (.pointer none) := by kernel_rfl
theorem y26_az34 : (Try.prog.info? 34).bind (·.zero) = some (.int .i64 0) := by kernel_rfl
theorem y26_az39 : (Try.prog.info? 39).bind (·.zero) = some (.agg #[.int .i64 0, .int .i64 0]) := by kernel_rfl
theorem y26_ar85 : ArIs Try.prog 85 2 1 := ⟨by kernel_rfl, by kernel_rfl⟩
theorem y26_bz39 : (Try.prog.info? 39).bind (·.zero) = some (.agg #[.int .i64 0, .int .i64 0]) := by kernel_rfl
theorem y26_bu39 : Try.prog.underlying 39 = some (.struct (fsOf Try.prog 39)) := by kernel_rfl
theorem y26_bp39 : ∀ w, ((fsOf Try.prog 39).mapM fun f => Prod.mk f.offset <$> sizeOf f.type : Sem (Array (Nat × Nat))).run Try.prog w = .ok (#[(0, 1), (1, 1)]) w := fun _ => by kernel_rfl
theorem y26_fl141_1 : FldIs Try.prog 141 1 4 false 1 := by unfold FldIs; kernel_rfl
theorem y26_fl28_0 : FldIs Try.prog 28 0 0 false 1 := by unfold FldIs; kernel_rfl
theorem y26_hcf130 : ∀ args w, (callFunc 130 args).run Try.prog w = .ok (.enter 130 args) w := fun _ _ => by kernel_rfl
theorem y26_hcf71 : ∀ args w, (callFunc 71 args).run Try.prog w = .ok (.enter 71 args) w := fun _ _ => by kernel_rfl
theorem y26_hcf72 : ∀ args w, (callFunc 72 args).run Try.prog w = .ok (.enter 72 args) w := fun _ _ => by kernel_rfl
theorem y26_hcf74 : ∀ args w, (callFunc 74 args).run Try.prog w = .ok (.enter 74 args) w := fun _ _ => by kernel_rfl
theorem y26_sl49 : SlIs Try.prog 49 3 1 8 (.int .i64 0) := ⟨by kernel_rfl, by kernel_rfl, by kernel_rfl⟩
theorem y26_sz124 : (Try.prog.info? 124).map (·.size) = some 1 := by kernel_rfl
theorem y26_sz34 : (Try.prog.info? 34).map (·.size) = some 1 := by kernel_rfl
theorem y26_sz39 : (Try.prog.info? 39).map (·.size) = some 2 := by kernel_rfl
theorem y26_ty124 : TyIs Try.prog 124 false 1 := ⟨by kernel_rfl, by kernel_rfl⟩
theorem y26_ty26 : TyIs Try.prog 26 true 4 := ⟨by kernel_rfl, by kernel_rfl⟩
theorem y26_ty28 : TyIs Try.prog 28 true 3 := ⟨by kernel_rfl, by kernel_rfl⟩
theorem y26_ty3 : TyIs Try.prog 3 false 1 := ⟨by kernel_rfl, by kernel_rfl⟩
theorem y26_ty34 : TyIs Try.prog 34 false 1 := ⟨by kernel_rfl, by kernel_rfl⟩
theorem y26_ty39 : TyIs Try.prog 39 true 2 := ⟨by kernel_rfl, by kernel_rfl⟩
theorem y26_ty49 : TyIs Try.prog 49 false 1 := ⟨by kernel_rfl, by kernel_rfl⟩

theorem filt_at {p : Nat → Bool} {i : Nat} (hp : p i = true) : ∀ {n : Nat}, i < n → ((List.range n).filter p)[((List.range i).filter p).length]? = some i
  | n + 1, hi => by
    rw [List.range_succ, List.filter_append]
    by_cases h : i = n
    · subst h
      rw [List.getElem?_append_right (Nat.le_refl _)]
      simp [hp]
    · have ih := filt_at hp (n := n) (by omega)
      rw [List.getElem?_append_left (List.getElem?_eq_some_iff.1 ih).1]; exact ih
theorem filt_succ {p : Nat → Bool} {i : Nat} : ((List.range (i + 1)).filter p).length = ((List.range i).filter p).length + if p i then 1 else 0 := by
  rw [List.range_succ, List.filter_append, List.length_append]
  cases h : p i <;> simp [h]
/-- A joint beneath a pose. -/
def benB (l : Lin) (L p : Int) (i : Nat) : Bool := decide (p < plaP l.bs i) && decide (plaP l.bs i < p + L)
def benL (l : Lin) (L p : Int) : List Nat := (List.range l.js.length).filter (benB l L p)
def benY (l : Lin) (L p : Int) : List (List AV) := (benL l L p).map fun (i : Nat) => [mA (i : Int)]
theorem benY_len (l : Lin) (L p : Int) : (benY l L p).length = (benL l L p).length := by simp [benY]
theorem benY_one {l : Lin} {L p : Int} : ∀ y ∈ benY l L p, y.length = 1 := by
  intro y hy
  obtain ⟨_, _, rfl⟩ := List.mem_map.1 hy; rfl
theorem benY_at {l : Lin} {L p j : Int} {i : Nat} (h0 : 0 ≤ j) (hj : j < l.js.length) (h1 : p < plaP l.bs j.toNat) (h2 : plaP l.bs j.toNat < p + L) (hi : i = ((List.range j.toNat).filter (benB l L p)).length) : (benY l L p)[i]? = some [.v (.int .i64 j)] := by
  subst hi
  unfold benY benL
  rw [List.getElem?_map, filt_at (by unfold benB; simp [h1, h2]) (by omega)]
  simp; omega
theorem benY_yes {l : Lin} {L p j : Int} (h0 : 0 ≤ j) (h1 : p < plaP l.bs j.toNat) (h2 : plaP l.bs j.toNat < p + L) : ((List.range (j + 1).toNat).filter (benB l L p)).length = ((List.range j.toNat).filter (benB l L p)).length + 1 := by
  rw [show (j + 1).toNat = j.toNat + 1 by omega, filt_succ, if_pos]
  unfold benB; simp [h1, h2]
theorem benY_no {l : Lin} {L p j : Int} (h0 : 0 ≤ j) (h : ¬ (p < plaP l.bs j.toNat ∧ plaP l.bs j.toNat < p + L)) : ((List.range (j + 1).toNat).filter (benB l L p)).length = ((List.range j.toNat).filter (benB l L p)).length := by
  rw [show (j + 1).toNat = j.toNat + 1 by omega, filt_succ, if_neg]; rfl
  unfold benB; simp; omega
theorem benY_of {l : Lin} {L p : Int} {i : Nat} {y : AV} (h : (benY l L p)[i]? = some [y]) : ∃ s : Nat, (benL l L p)[i]? = some s ∧ y = mA (s : Int) ∧ s < l.js.length ∧ p < plaP l.bs s ∧ plaP l.bs s < p + L := by
  unfold benY at h
  rw [List.getElem?_map] at h
  cases hs : (benL l L p)[i]? with
  | none => rw [hs] at h; cases h
  | some s =>
    rw [hs] at h
    simp only [Option.map_some, Option.some.injEq, List.cons.injEq, and_true] at h
    have hm := List.mem_of_getElem? hs
    unfold benL at hm
    rw [List.mem_filter] at hm
    obtain ⟨h1, h2⟩ := hm
    unfold benB at h2
    simp at h1 h2
    exact ⟨s, rfl, h.symm, h1, h2.1, h2.2⟩
set_option maxRecDepth 100000 in
set_option maxHeartbeats 4000000 in
theorem beneath1_gen (l : Lin) (h : Rgt l) (L c s p : Int) (hL : 1000 ≤ L ∧ L ≤ 30000) (hp : 0 ≤ p ∧ p ≤ 1200000) : GenOk Try.prog 130 [] [.ref [tkA l], .ref [mA p], .ref [mA L, mA c, mA s]] (benY l L p) := by
  refine gen_of (fn := Try.f130) 35 (by kernel_rfl) rfl (by kernel_rfl) (Nat.le_of_ble_eq_true rfl) (fun _ _ => ⟨.tuple #[], by kernel_rfl⟩) ?_
  intro lb_ e_0 hA
  have s0_0 : evA e_0 (.tmp 0) = _ := hA 0 _ rfl
  have s1_0 : evA e_0 (.tmp 1) = _ := hA 1 _ rfl
  have s2_0 : evA e_0 (.tmp 2) = _ := hA 2 _ rfl
  have s3_0 : evA e_0 (.tmp 3) = _ := hA 3 _ rfl
  clear hA
  have hn1 := h.n1; have hn0 := h.n0; have hjs := h.js; have hpl := plaL_len (bs := l.bs) (n := l.bs.length)
  refine iw_seq <| iw_text ?_
  refine il_ro (fun _ => (ro_eq (ro_ld_ref y26_ty124 rfl s1_0 (nle rfl)) (by simp only [pS, Value.cells, Nat.reduceAdd] <;> rfl))) trivial rfl ?_
  refine il_ro (fun _ => (ro_nilR up_h)) trivial rfl ?_
  refine il_ro (fun _ => (ro_eq (ro_fld_ref y26_fl141_1 rfl up_h) (by simp only [pS, Value.cells, Nat.reduceAdd] <;> rfl))) trivial rfl ?_
  refine il_ro (fun _ => (ro_eq (ro_ld_ref y26_ty49 rfl up_h (nle rfl)) (by simp only [pS, Value.cells, Nat.reduceAdd] <;> rfl))) trivial rfl ?_
  refine il_ro (fun _ => (ro_eq (ro_len_row up_h rfl y26_sl49.1) (by simp only [lnS] <;> rfl))) trivial rfl ?_
  refine il_ro (fun _ => (ro_move ev_c)) trivial rfl ?_
  refine il_end (fun e_1 he_1 => ?_)
  have s0_1 := ef 0 he_1 (u2 rfl (u4 rfl s0_0))
  have s2_1 := ef 2 he_1 (u2 rfl (u4 rfl s2_0))
  have s3_1 := ef 3 he_1 (u2 rfl (u4 rfl s3_0))
  have s10_1 := ef 10 he_1 (u2 rfl up_h)
  have s11_1 := ef 11 he_1 (up_m rfl up_h)
  have s12_1 := ef 12 he_1 up_h
  clear he_1 s0_0 s1_0 s2_0 s3_0
  refine theni_n <| iw_block <| iw_loop (S := Int) (fun j e b i => (evA e (.tmp 12) = .v (.int .i64 j)) ∧ (evA e (.tmp 0) = evA e_1 (.tmp 0)) ∧ (evA e (.tmp 2) = evA e_1 (.tmp 2)) ∧ (evA e (.tmp 3) = evA e_1 (.tmp 3)) ∧ (evA e (.tmp 10) = evA e_1 (.tmp 10)) ∧ (evA e (.tmp 11) = evA e_1 (.tmp 11)) ∧ (b = true) ∧ (i = ((List.range j.toNat).filter (benB l L p)).length) ∧ ((0 ≤ j ∧ j ≤ l.js.length))) (fun j => (l.js.length - j).toNat) _ ⟨s12_1, rfl, rfl, rfl, rfl, rfl, rfl, (by rfl), ?_⟩ ?_
  · (exact ⟨by omega, by omega⟩)
  · rintro j e_2 _ i_2 ⟨s12_2, k0_2, k2_2, k3_2, k10_2, k11_2, rfl, hix, hinv⟩
    have s0_2 := k0_2.trans s0_1
    have s2_2 := k2_2.trans s2_1
    have s3_2 := k3_2.trans s3_1
    have s10_2 := k10_2.trans s10_1
    have s11_2 := k11_2.trans s11_1
    (have p1 := hinv.1; have p2 := hinv.2)
    refine iw_seq <| iw_text ?_
    refine il_ro (fun _ => (ro_lss s12_2 s11_2)) trivial rfl ?_
    refine il_end (fun e_3 he_3 => ?_)
    have s0_3 := ef 0 he_3 (up_m rfl s0_2)
    have s2_3 := ef 2 he_3 (up_m rfl s2_2)
    have s3_3 := ef 3 he_3 (up_m rfl s3_2)
    have s10_3 := ef 10 he_3 (up_m rfl s10_2)
    have s11_3 := ef 11 he_3 (up_m rfl s11_2)
    have s12_3 := ef 12 he_3 (up_m rfl s12_2)
    have s13_3 := ef 13 he_3 up_h
    clear he_3 s0_2 s10_2 s11_2 s12_2 s2_2 s3_2
    refine theni_n <| iw_seq <| iw_case s13_3 (fun hq_4 => ?_) (fun hq_4 => ?_)
    ·replace hq_4 := bt hq_4
     (have hgj := plaL_get (bs := l.bs) (n := l.bs.length) (j := j.toNat) (by omega))
     refine iw_skip <| theni_n <| iw_seq <| iw_block <| iw_seq <| iw_text ?_
     refine il_ro (fun _ => (ro_move s12_3)) trivial rfl ?_
     refine il_ro (fun _ => (ro_eq (ro_ix y26_sl49 (up_m rfl s10_3) (up_m rfl s12_3) (by omega) (by first | (refine idx_map ?_; first | omega | (simp only [lnS]; omega)) | (refine idx_mapI ?_; first | omega | (simp only [lnS]; omega)) | (refine idx_mapN ?_; first | omega | (simp only [lnS]; omega)) | rfl)) (by simp only [pS, Value.cells, Nat.reduceAdd] <;> rfl))) trivial rfl ?_
     refine il_ro (fun _ => (ro_eq (ro_ld_ref y26_ty3 rfl up_h (nle rfl)) (by simp only [pS, Value.cells, Nat.reduceAdd] <;> rfl))) trivial rfl ?_
     refine il_ro (fun _ => (ro_assign (u2 rfl up_h))) trivial rfl ?_
     refine il_ro (fun _ => (ro_assign (up_m rfl up_h))) trivial rfl ?_
     refine il_end (fun e_5 he_5 => ?_)
     have s0_5 := ef 0 he_5 (up_m rfl (u4 rfl s0_3))
     have s2_5 := ef 2 he_5 (up_m rfl (u4 rfl s2_3))
     have s3_5 := ef 3 he_5 (up_m rfl (u4 rfl s3_3))
     have s5_5 := ef 5 he_5 (up_m rfl up_h)
     have s6_5 := ef 6 he_5 up_h
     have s10_5 := ef 10 he_5 (up_m rfl (u4 rfl s10_3))
     have s11_5 := ef 11 he_5 (up_m rfl (u4 rfl s11_3))
     have s12_5 := ef 12 he_5 (up_m rfl (u4 rfl s12_3))
     clear he_5 s0_3 s10_3 s11_3 s12_3 s13_3 s2_3 s3_3
     refine theni_n <| iw_seq <| iw_text ?_
     refine il_ro (fun _ => (ro_move s6_5)) trivial rfl ?_
     refine il_ro (fun _ => (ro_eq (ro_ld_ref y26_ty3 rfl (up_m rfl s2_5) (nle rfl)) (by simp only [pS, Value.cells, Nat.reduceAdd] <;> rfl))) trivial rfl ?_
     refine il_ro (fun _ => (ro_gtr (up_m rfl up_h) up_h)) trivial rfl ?_
     refine il_ro (fun _ => (ro_move up_h)) trivial rfl ?_
     refine il_case up_h (fun hb_6 hq_6 => ?_) (fun hb_6 hq_6 => ?_)
     ·replace hq_6 := bt hq_6
      refine il_ro (fun _ => (ro_move (u4 rfl s6_5))) ⟨_, rfl, hb_6⟩ rfl ?_
      refine il_ro (fun _ => (ro_eq (ro_ld_ref y26_ty3 rfl (up_m rfl (u4 rfl s2_5)) (nle rfl)) (by simp only [pS, Value.cells, Nat.reduceAdd] <;> rfl))) ⟨_, rfl, (up_m rfl hb_6)⟩ rfl ?_
      refine il_ro (fun _ => (ro_eq (ro_fld_ref y26_fl28_0 rfl (u2 rfl (u4 rfl s3_5))) (by simp only [pS, Value.cells, Nat.reduceAdd] <;> rfl))) ⟨_, rfl, (u2 rfl hb_6)⟩ rfl ?_
      refine il_ro (fun _ => (ro_eq (ro_ld_ref y26_ty3 rfl up_h (nle rfl)) (by simp only [pS, Value.cells, Nat.reduceAdd] <;> rfl))) ⟨_, rfl, (up_m rfl (u2 rfl hb_6))⟩ rfl ?_
      (refine il_ro (fun _ => (ro_add' (u2 rfl up_h) up_h ?_)) ⟨_, rfl, (u4 rfl hb_6)⟩ rfl ?_; · (unfold In64; omega))
      refine il_ro (fun _ => (ro_lss (u4 rfl up_h) up_h)) ⟨_, rfl, (up_m rfl (u4 rfl hb_6))⟩ rfl ?_
      refine il_ro (fun _ => (ro_pickT (u2 rfl (u4 rfl hb_6)) up_h)) trivial rfl ?_
      refine il_ro (fun _ => (ro_move up_h)) trivial rfl ?_
      refine il_case up_h (fun hb_7 hq_7 => ?_) (fun hb_7 hq_7 => ?_)
      ·replace hq_7 := bt hq_7
       refine il_ro (fun _ => (ro_move (u4 rfl (u8 rfl s0_5)))) ⟨_, rfl, hb_7⟩ rfl ?_
       refine il_ro (fun _ => (ro_move (up_m rfl (u4 rfl (u8 rfl s5_5))))) ⟨_, rfl, (up_m rfl hb_7)⟩ rfl ?_
       refine il_yield2 (up_m rfl up_h) (evL_cons up_h evL_nil) rfl ⟨_, rfl, (u2 rfl hb_7)⟩ rfl (by exact benY_at p1 (by omega) (by omega) (by omega) hix) ?_ ?_
       ·
         refine il_ro (fun _ => (ro_not up_h)) ⟨_, rfl, (up_m rfl (u2 rfl hb_7))⟩ rfl ?_
         refine il_ro (fun _ => (ro_pickT (u4 rfl hb_7) up_h)) trivial rfl ?_
         refine il_end (fun e_8 he_8 => ?_)
         have s0_8 := ef 0 he_8 (up_m rfl (u16 rfl s0_5))
         have s2_8 := ef 2 he_8 (up_m rfl (u16 rfl s2_5))
         have s3_8 := ef 3 he_8 (up_m rfl (u16 rfl s3_5))
         have s10_8 := ef 10 he_8 (up_m rfl (u16 rfl s10_5))
         have s11_8 := ef 11 he_8 (up_m rfl (u16 rfl s11_5))
         have s12_8 := ef 12 he_8 (up_m rfl (u16 rfl s12_5))
         have s33_8 := ef 33 he_8 up_h
         clear he_8 hb_6 hb_7 s0_5 s10_5 s11_5 s12_5 s2_5 s3_5 s5_5 s6_5
         refine theni_n <| iw_false s33_8 ?_
         refine iw_skip <| blocki_n <| theni_n <| iw_text ?_
         (refine il_ro (fun _ => (ro_add' s12_8 ev_c ?_)) trivial rfl ?_; · (unfold In64; omega))
         refine il_ro (fun _ => (ro_move up_h)) trivial rfl ?_
         refine il_end (fun e_10 he_10 => ?_)
         have s0_10 := ef 0 he_10 (u2 rfl s0_8)
         have s2_10 := ef 2 he_10 (u2 rfl s2_8)
         have s3_10 := ef 3 he_10 (u2 rfl s3_8)
         have s10_10 := ef 10 he_10 (u2 rfl s10_8)
         have s11_10 := ef 11 he_10 (u2 rfl s11_8)
         have s12_10 := ef 12 he_10 up_h
         clear he_10 s0_8 s10_8 s11_8 s12_8 s2_8 s33_8 s3_8
         refine theni_n <| ⟨_, ⟨s12_10, (s0_10.trans s0_1.symm), (s2_10.trans s2_1.symm), (s3_10.trans s3_1.symm), (s10_10.trans s10_1.symm), (s11_10.trans s11_1.symm), rfl, (by first | (rw [hix, benY_yes hinv.1 (by omega) (by omega)]; done) | (rw [hix, benY_no hinv.1 (by omega)]; done)), ?_⟩, ?_⟩
         · (exact ⟨by omega, by omega⟩)
         · ((try dsimp only); omega)
       ·
         refine il_ro (fun _ => (ro_not up_h)) ⟨_, rfl, (up_m rfl (u2 rfl hb_7))⟩ rfl ?_
         refine il_ro (fun _ => (ro_pickT (u4 rfl hb_7) up_h)) trivial rfl ?_
         refine il_end (fun e_11 he_11 => ?_)
         have s0_11 := ef 0 he_11 (up_m rfl (u16 rfl s0_5))
         have s2_11 := ef 2 he_11 (up_m rfl (u16 rfl s2_5))
         have s3_11 := ef 3 he_11 (up_m rfl (u16 rfl s3_5))
         have s10_11 := ef 10 he_11 (up_m rfl (u16 rfl s10_5))
         have s11_11 := ef 11 he_11 (up_m rfl (u16 rfl s11_5))
         have s12_11 := ef 12 he_11 (up_m rfl (u16 rfl s12_5))
         have s33_11 := ef 33 he_11 up_h
         clear he_11 hb_6 hb_7 s0_5 s10_5 s11_5 s12_5 s2_5 s3_5 s5_5 s6_5
         refine theni_n <| iw_true s33_11 ?_
         refine iw_ret <| blocki_r <| theni_r <| theni_r <| blocki_r <| gen_r (fun hb_ => (by cases hb_))
      replace hq_7 := bf hq_7
      refine il_skip ⟨_, rfl, .inl hb_7⟩ rfl ?_
      refine il_skip ⟨_, rfl, .inl (up_m rfl hb_7)⟩ rfl ?_
      refine il_skip ⟨_, rfl, .inl (u2 rfl hb_7)⟩ rfl ?_
      refine il_skip ⟨_, rfl, .inl (up_m rfl (u2 rfl hb_7))⟩ rfl ?_
      refine il_ro (fun _ => (ro_pickF (u4 rfl hb_7) ev_c)) trivial rfl ?_
      refine il_end (fun e_13 he_13 => ?_)
      have s0_13 := ef 0 he_13 (up_m rfl (u16 rfl s0_5))
      have s2_13 := ef 2 he_13 (up_m rfl (u16 rfl s2_5))
      have s3_13 := ef 3 he_13 (up_m rfl (u16 rfl s3_5))
      have s10_13 := ef 10 he_13 (up_m rfl (u16 rfl s10_5))
      have s11_13 := ef 11 he_13 (up_m rfl (u16 rfl s11_5))
      have s12_13 := ef 12 he_13 (up_m rfl (u16 rfl s12_5))
      have s33_13 := ef 33 he_13 up_h
      clear he_13 hb_6 hb_7 s0_5 s10_5 s11_5 s12_5 s2_5 s3_5 s5_5 s6_5
      refine theni_n <| iw_false s33_13 ?_
      refine iw_skip <| blocki_n <| theni_n <| iw_text ?_
      (refine il_ro (fun _ => (ro_add' s12_13 ev_c ?_)) trivial rfl ?_; · (unfold In64; omega))
      refine il_ro (fun _ => (ro_move up_h)) trivial rfl ?_
      refine il_end (fun e_15 he_15 => ?_)
      have s0_15 := ef 0 he_15 (u2 rfl s0_13)
      have s2_15 := ef 2 he_15 (u2 rfl s2_13)
      have s3_15 := ef 3 he_15 (u2 rfl s3_13)
      have s10_15 := ef 10 he_15 (u2 rfl s10_13)
      have s11_15 := ef 11 he_15 (u2 rfl s11_13)
      have s12_15 := ef 12 he_15 up_h
      clear he_15 s0_13 s10_13 s11_13 s12_13 s2_13 s33_13 s3_13
      refine theni_n <| ⟨_, ⟨s12_15, (s0_15.trans s0_1.symm), (s2_15.trans s2_1.symm), (s3_15.trans s3_1.symm), (s10_15.trans s10_1.symm), (s11_15.trans s11_1.symm), rfl, (by first | (rw [hix, benY_yes hinv.1 (by omega) (by omega)]; done) | (rw [hix, benY_no hinv.1 (by omega)]; done)), ?_⟩, ?_⟩
      · (exact ⟨by omega, by omega⟩)
      · ((try dsimp only); omega)
     replace hq_6 := bf hq_6
     refine il_skip ⟨_, rfl, .inl hb_6⟩ rfl ?_
     refine il_skip ⟨_, rfl, .inl (up_m rfl hb_6)⟩ rfl ?_
     refine il_skip ⟨_, rfl, .inl (u2 rfl hb_6)⟩ rfl ?_
     refine il_skip ⟨_, rfl, .inl (up_m rfl (u2 rfl hb_6))⟩ rfl ?_
     refine il_skip ⟨_, rfl, .inl (u4 rfl hb_6)⟩ rfl ?_
     refine il_skip ⟨_, rfl, .inl (up_m rfl (u4 rfl hb_6))⟩ rfl ?_
     refine il_ro (fun _ => (ro_pickF (u2 rfl (u4 rfl hb_6)) ev_c)) trivial rfl ?_
     refine il_ro (fun _ => (ro_move up_h)) trivial rfl ?_
     refine il_skip ⟨_, rfl, .inl up_h⟩ rfl ?_
     refine il_skip ⟨_, rfl, .inl (up_m rfl up_h)⟩ rfl ?_
     refine il_skip ⟨_, rfl, .inl (u2 rfl up_h)⟩ rfl ?_
     refine il_skip ⟨_, rfl, .inl (up_m rfl (u2 rfl up_h))⟩ rfl ?_
     refine il_ro (fun _ => (ro_pickF (u4 rfl up_h) ev_c)) trivial rfl ?_
     refine il_end (fun e_16 he_16 => ?_)
     have s0_16 := ef 0 he_16 (up_m rfl (u16 rfl s0_5))
     have s2_16 := ef 2 he_16 (up_m rfl (u16 rfl s2_5))
     have s3_16 := ef 3 he_16 (up_m rfl (u16 rfl s3_5))
     have s10_16 := ef 10 he_16 (up_m rfl (u16 rfl s10_5))
     have s11_16 := ef 11 he_16 (up_m rfl (u16 rfl s11_5))
     have s12_16 := ef 12 he_16 (up_m rfl (u16 rfl s12_5))
     have s33_16 := ef 33 he_16 up_h
     clear he_16 hb_6 s0_5 s10_5 s11_5 s12_5 s2_5 s3_5 s5_5 s6_5
     refine theni_n <| iw_false s33_16 ?_
     refine iw_skip <| blocki_n <| theni_n <| iw_text ?_
     (refine il_ro (fun _ => (ro_add' s12_16 ev_c ?_)) trivial rfl ?_; · (unfold In64; omega))
     refine il_ro (fun _ => (ro_move up_h)) trivial rfl ?_
     refine il_end (fun e_18 he_18 => ?_)
     have s0_18 := ef 0 he_18 (u2 rfl s0_16)
     have s2_18 := ef 2 he_18 (u2 rfl s2_16)
     have s3_18 := ef 3 he_18 (u2 rfl s3_16)
     have s10_18 := ef 10 he_18 (u2 rfl s10_16)
     have s11_18 := ef 11 he_18 (u2 rfl s11_16)
     have s12_18 := ef 12 he_18 up_h
     clear he_18 s0_16 s10_16 s11_16 s12_16 s2_16 s33_16 s3_16
     refine theni_n <| ⟨_, ⟨s12_18, (s0_18.trans s0_1.symm), (s2_18.trans s2_1.symm), (s3_18.trans s3_1.symm), (s10_18.trans s10_1.symm), (s11_18.trans s11_1.symm), rfl, (by first | (rw [hix, benY_yes hinv.1 (by omega) (by omega)]; done) | (rw [hix, benY_no hinv.1 (by omega)]; done)), ?_⟩, ?_⟩
     · (exact ⟨by omega, by omega⟩)
     · ((try dsimp only); omega)
    replace hq_4 := bf hq_4
    refine iw_exit <| theni_x <| theni_x <| blocki_hit ?_
    refine gen_n (fun hb_ => ?_)
    (first | (rw [hix, benY_len]; unfold benL; rw [show j.toNat = l.js.length by omega]; done))
set_option maxRecDepth 100000 in
set_option maxHeartbeats 4000000 in
theorem beneath_ok (l : Lin) (L c s p : Int) : FnOk Try.prog 72 [tkA l, vehA L c s, mA p] (fun q => q = .clo (.func 130) [] [.ref [tkA l], .ref [mA p], .ref [mA L, mA c, mA s]]) := by
  refine fnOk_of (fn := Try.f72) 8 (by kernel_rfl) rfl (by kernel_rfl) (Nat.le_of_ble_eq_true rfl) ?_
  intro e_0 m_0 hA hm_0
  have s0_0 : evA e_0 (.tmp 0) = _ := hA 0 _ rfl
  have s1_0 : evA e_0 (.tmp 1) = _ := hA 1 _ rfl
  have s2_0 : evA e_0 (.tmp 2) = _ := hA 2 _ rfl
  have ml_0 : m_0.length = 0 := by rw [hm_0]; rfl
  clear hA hm_0
  refine aw_seq <| at_ <| al_stm (st_box s0_0 rfl ml_0) trivial rfl (fun m_1 hm_1 => ?_)
  have mo0_1 := m_push hm_1 ml_0
  (first | (simp only [pS, Value.cells, Nat.reduceAdd] at mo0_1; trace "W2.N.1.1") | skip)
  have ml_1 := m_push_l hm_1 ml_0
  have ml_1 : _ = 1 := ml_1
  clear hm_1
  refine al_stm (st_box (up_m rfl s1_0) rfl ml_1) trivial rfl (fun m_2 hm_2 => ?_)
  have mo1_2 := m_push hm_2 ml_1
  (first | (simp only [pS, Value.cells, Nat.reduceAdd] at mo1_2; trace "W2.N.2.1") | skip)
  have mo0_2 := m_push_o hm_2 mo0_1
  have ml_2 := m_push_l hm_2 ml_1
  have ml_2 : _ = 2 := ml_2
  clear hm_2 mo0_1
  refine al_stm (st_box (u2 rfl s2_0) rfl ml_2) trivial rfl (fun m_3 hm_3 => ?_)
  have mo2_3 := m_push hm_3 ml_2
  (first | (simp only [pS, Value.cells, Nat.reduceAdd] at mo2_3; trace "W2.N.3.1") | skip)
  have mo1_3 := m_push_o hm_3 mo1_2
  have mo0_3 := m_push_o hm_3 mo0_2
  have ml_3 := m_push_l hm_3 ml_2
  have ml_3 : _ = 3 := ml_3
  clear hm_3 mo1_2 mo0_2
  refine ar (ro_assign ev_c) rfl <| ae3 (up_m rfl (u2 rfl up_h)) (u2 rfl up_h) (up_m rfl up_h) ?_; clear s0_0 s1_0 s2_0; intro e_4 s3_4 s4_4 s5_4
  refine then_n <| aw_seq <| at_ <| ar (ro_makeFunc evL_nil (evL_cons s3_4 (evL_cons s5_4 (evL_cons s4_4 evL_nil)))) rfl <| ar (ro_assign up_h) rfl <| ae1 up_h ?_; clear s3_4 s4_4 s5_4; intro e_5 s6_5
  refine then_n <| aw_ret <| ret1 (.inr rfl) (by kernel_rfl) (resV_tmp s6_5) (vw_clo vwl_nil (vwl_cons (vw_ptr mo0_3 (vwl_cons (.ro _ rfl) vwl_nil)) (vwl_cons (vw_ptr mo2_3 (vwl_cons (.ro _ rfl) vwl_nil)) (vwl_cons (vw_ptr mo1_3 (vwl_cons (.ro _ rfl) (vwl_cons (.ro _ rfl) (vwl_cons (.ro _ rfl) vwl_nil)))) vwl_nil)))) ?_
  clear s6_5 mo2_3 mo1_3 mo0_3 ml_3
  rfl
/-- Whether a joint is beneath a pose. -/
def benI (l : Lin) (L p j : Int) : Bool := decide (0 ≤ j) && decide (j < l.js.length) && benB l L p j.toNat
/-- A joint is none of the first ones beneath. -/
def Non (l : Lin) (L p j : Int) (i : Nat) : Prop := ∀ k : Nat, k < i → ∀ n : Nat, (benL l L p)[k]? = some n → (n : Int) ≠ j
theorem Non.step {l : Lin} {L p j : Int} {i n : Nat} (h : Non l L p j i) (hn : (benL l L p)[i]? = some n) (hne : ¬ (n : Int) = j) : Non l L p j (i + 1) := fun k hk m hm => by
  by_cases hki : k = i
  · subst hki; rw [hn] at hm; cases hm; exact hne
  · exact h k (by omega) m hm
theorem benI_yes {l : Lin} {L p j : Int} {n : Nat} (hj : (n : Int) = j) (n1 : n < l.js.length) (n2 : p < plaP l.bs n) (n3 : plaP l.bs n < p + L) : benI l L p j = true := by
  subst hj
  simp [benI, benB, n1, n2, n3]
theorem benI_no {l : Lin} {L p j : Int} (h : Non l L p j (benY l L p).length) : benI l L p j = false := by
  cases hb : benI l L p j with
  | false => rfl
  | true =>
    unfold benI at hb
    simp only [Bool.and_eq_true, decide_eq_true_eq] at hb
    obtain ⟨⟨h0, h1⟩, h2⟩ := hb
    have hm : j.toNat ∈ benL l L p := by
      unfold benL
      rw [List.mem_filter]
      exact ⟨List.mem_range.2 (by omega), h2⟩
    obtain ⟨k, hk⟩ := List.mem_iff_getElem?.1 hm
    have hlt := (List.getElem?_eq_some_iff.1 hk).1
    exact absurd (show ((j.toNat : Nat) : Int) = j by omega) (h k (by rw [benY_len]; exact hlt) _ hk)
set_option maxRecDepth 100000 in
set_option maxHeartbeats 4000000 in
theorem deviationAt_good (l : Lin) (hl : Sho l) (hg : (linM l).2 = 0) (L c s p j : Int) (hv : vehE L c s = 0) (hp : posE l L s p = 0) : FnOk Try.prog 68 [lnA l, vehA L c s, .agg [mA p, mA j]] (fun q => q = if benI l L p j then .tuple [.agg [mA (devLo l L p j.toNat), mA (devHi l L p j.toNat)], mA 0] else .tuple [.agg [mA 0, mA 0], mA 6]) := by
  refine fnOk_of (fn := Try.f68) 40 (by kernel_rfl) rfl (by kernel_rfl) (Nat.le_of_ble_eq_true rfl) ?_
  intro e_0 m_0 hA hm_0
  have s0_0 : evA e_0 (.tmp 0) = _ := hA 0 _ rfl
  have s1_0 : evA e_0 (.tmp 1) = _ := hA 1 _ rfl
  have s2_0 : evA e_0 (.tmp 2) = _ := hA 2 _ rfl
  have ml_0 : m_0.length = 0 := by rw [hm_0]; rfl
  clear hA hm_0
  have h := rgt_of hg; have hv2 := vehE_z.1 hv; have hp2 := posE_z.1 hp; have hpb := h.pla (n := l.bs.length) (Nat.le_refl _)
  refine aw_seq <| at_ <| al_stm (st_box s0_0 rfl ml_0) trivial rfl (fun m_1 hm_1 => ?_)
  have mo0_1 := m_push hm_1 ml_0
  have ml_1 := m_push_l hm_1 ml_0
  have ml_1 : _ = 1 := ml_1
  clear hm_1
  refine al_stm (st_box (up_m rfl s1_0) rfl ml_1) trivial rfl (fun m_2 hm_2 => ?_)
  have mo1_2 := m_push hm_2 ml_1
  have mo0_2 := m_push_o hm_2 mo0_1
  have ml_2 := m_push_l hm_2 ml_1
  have ml_2 : _ = 2 := ml_2
  clear hm_2 mo0_1
  refine al_stm (st_box (u2 rfl s2_0) rfl ml_2) trivial rfl (fun m_3 hm_3 => ?_)
  have mo2_3 := m_push hm_3 ml_2
  have mo1_3 := m_push_o hm_3 mo1_2
  have mo0_3 := m_push_o hm_3 mo0_2
  have ml_3 := m_push_l hm_3 ml_2
  have ml_3 : _ = 3 := ml_3
  clear hm_3 mo1_2 mo0_2
  refine al_stm (st_alloc y26_az39 rfl ml_3) trivial rfl (fun m_4 hm_4 => ?_)
  have mo3_4 := m_push hm_4 ml_3
  simp only [pS, Value.cells, Nat.reduceAdd] at mo3_4
  have mo2_4 := m_push_o hm_4 mo2_3
  have mo1_4 := m_push_o hm_4 mo1_3
  have mo0_4 := m_push_o hm_4 mo0_3
  have ml_4 := m_push_l hm_4 ml_3
  have ml_4 : _ = 4 := ml_4
  clear hm_4 mo2_3 mo1_3 mo0_3
  refine al_stm (st_alloc y26_az34 rfl ml_4) trivial rfl (fun m_5 hm_5 => ?_)
  have mo4_5 := m_push hm_5 ml_4
  simp only [pS, Value.cells, Nat.reduceAdd] at mo4_5
  have mo3_5 := m_push_o hm_5 mo3_4
  have mo2_5 := m_push_o hm_5 mo2_4
  have mo1_5 := m_push_o hm_5 mo1_4
  have mo0_5 := m_push_o hm_5 mo0_4
  have ml_5 := m_push_l hm_5 ml_4
  have ml_5 : _ = 5 := ml_5
  clear hm_5 mo3_4 mo2_4 mo1_4 mo0_4
  refine ae5 (u4 rfl up_h) (up_m rfl (u2 rfl up_h)) (u2 rfl up_h) (up_m rfl up_h) up_h ?_; clear s0_0 s1_0 s2_0; intro e_6 s3_6 s4_6 s5_6 s6_6 s7_6
  refine then_n <| aw_seq <| at_ <| ar (ro_eq (ro_ld_ptr y26_ty26 rfl mo0_5 s3_6 (nle rfl)) (by simp only [pS, Value.cells, Nat.reduceAdd] <;> rfl)) rfl ?_
  refine ar (ro_eq (ro_ld_ptr y26_ty28 rfl mo1_5 (up_m rfl s4_6) (nle rfl)) (by simp only [pS, Value.cells, Nat.reduceAdd] <;> rfl)) rfl ?_
  refine ar (ro_ixa y26_ar85 (u2 rfl s5_6) ev_c rfl) rfl <| ar (ro_eq (ro_ld_ptr y26_ty3 rfl mo2_5 up_h (nle rfl)) (by simp only [pS, Value.cells, Nat.reduceAdd] <;> rfl)) rfl ?_
  refine ar (ro_call (evL_cons (up_m rfl (u2 rfl up_h)) (evL_cons (u2 rfl up_h) (evL_cons up_h evL_nil))) rfl (openPose_good l hl hg L c s p hv) y26_hcf71) rfl <| ar (ro_move up_h) rfl <| ar (ro_extract up_h rfl) rfl <| ar (ro_extract (up_m rfl up_h) rfl) rfl <| al_stm (st_alloc y26_az124 rfl ml_5) trivial rfl (fun m_7 hm_7 => ?_)
  have mo5_7 := m_push hm_7 ml_5
  simp only [pS, Value.cells, Nat.reduceAdd] at mo5_7
  have mo4_7 := m_push_o hm_7 mo4_5
  have mo3_7 := m_push_o hm_7 mo3_5
  have mo2_7 := m_push_o hm_7 mo2_5
  have mo1_7 := m_push_o hm_7 mo1_5
  have mo0_7 := m_push_o hm_7 mo0_5
  have ml_7 := m_push_l hm_7 ml_5
  have ml_7 : _ = 6 := ml_7
  clear hm_7 mo4_5 mo3_5 mo2_5 mo1_5 mo0_5
  refine al_stm (st_store up_h (u2 rfl up_h) rfl rfl mo5_7 y26_sz124 rfl (nle rfl)) trivial rfl (fun m_8 hm_8 => ?_)
  have mo5_8 := m_set hm_8 mo5_7
  simp only [pS, Value.cells, Nat.reduceAdd] at mo5_8
  have mo4_8 := m_set_o hm_8 mo4_7 (by decide)
  have mo3_8 := m_set_o hm_8 mo3_7 (by decide)
  have mo2_8 := m_set_o hm_8 mo2_7 (by decide)
  have mo1_8 := m_set_o hm_8 mo1_7 (by decide)
  have mo0_8 := m_set_o hm_8 mo0_7 (by decide)
  have ml_8 := m_set_l hm_8 ml_7
  clear hm_8 mo5_7 mo4_7 mo3_7 mo2_7 mo1_7 mo0_7
  refine ar (ro_assign (up_n (up_m rfl up_h))) rfl <| ae6 (up_m rfl (up_n (up_m rfl (u8 rfl s4_6)))) (up_m rfl (up_n (up_m rfl (u8 rfl s5_6)))) (up_m rfl (up_n (up_m rfl (u8 rfl s6_6)))) (up_m rfl (up_n (up_m rfl (u8 rfl s7_6)))) (up_m rfl (up_n up_h)) up_h ?_; clear s3_6 s4_6 s5_6 s6_6 s7_6; intro e_9 s4_9 s5_9 s6_9 s7_9 s8_9 s9_9
  refine then_n <| aw_seq <| aw_seq <| at_ <| ar (ro_move s9_9) rfl <| ar (ro_neq up_h ev_c) rfl <| ae7 (u2 rfl s4_9) (u2 rfl s5_9) (u2 rfl s6_9) (u2 rfl s7_9) (u2 rfl s8_9) (u2 rfl s9_9) up_h ?_; clear s4_9 s5_9 s6_9 s7_9 s8_9 s9_9; intro e_10 s4_10 s5_10 s6_10 s7_10 s8_10 s9_10 s20_10
  refine then_n <| aw_case s20_10 (fun hq_11 => ?_) (fun hq_11 => ?_)
  · replace hq_11 := bnt hq_11; exfalso; omega
  replace hq_11 := bnf hq_11
  refine aw_skip <| then_n <| aw_seq <| aw_seq <| at_ <| ar (ro_eq (ro_ld_ptr y26_ty124 rfl mo5_8 s8_10 (nle rfl)) (by simp only [pS, Value.cells, Nat.reduceAdd] <;> rfl)) rfl ?_
  refine ar (ro_eq (ro_ld_ptr y26_ty28 rfl mo1_8 (up_m rfl s4_10) (nle rfl)) (by simp only [pS, Value.cells, Nat.reduceAdd] <;> rfl)) rfl ?_
  refine ar (ro_ixa y26_ar85 (u2 rfl s5_10) ev_c rfl) rfl <| ar (ro_eq (ro_ld_ptr y26_ty3 rfl mo2_8 up_h (nle rfl)) (by simp only [pS, Value.cells, Nat.reduceAdd] <;> rfl)) rfl ?_
  refine ar (ro_call (evL_cons (up_m rfl (u2 rfl up_h)) (evL_cons (u2 rfl up_h) (evL_cons up_h evL_nil))) rfl (beneath_ok l L c s p) y26_hcf72) rfl <| ae6 (up_m rfl (u4 rfl s4_10)) (up_m rfl (u4 rfl s5_10)) (up_m rfl (u4 rfl s6_10)) (up_m rfl (u4 rfl s7_10)) (up_m rfl (u4 rfl s8_10)) up_h ?_; clear s20_10 s4_10 s5_10 s6_10 s7_10 s8_10 s9_10; intro e_15 s4_15 s5_15 s6_15 s7_15 s8_15 s27_15
  refine then_n <| aw_block <| aw_range1 s27_15 (beneath1_gen l h L c s p hv2.1 (by omega)) y26_hcf130 (by exact benY_one) (Nat.le_of_ble_eq_true rfl) (fun i mem => (mem[5]? = m_8[5]?) ∧ (mem[4]? = m_8[4]?) ∧ (mem[3]? = m_8[3]?) ∧ (mem[2]? = m_8[2]?) ∧ (mem[1]? = m_8[1]?) ∧ (mem[0]? = m_8[0]?) ∧ (mem.length = 6) ∧ ((Non l L p j i))) ⟨rfl, rfl, rfl, rfl, rfl, rfl, ml_8, ?_⟩ ?_ ?_
  · (intro k hk; omega)
  · rintro i_16 y0_16 m_16 hy_16 ⟨mk5_16, mk4_16, mk3_16, mk2_16, mk1_16, mk0_16, ml_16, hinv⟩
    (obtain ⟨n, hn, rfl, n1, n2, n3⟩ := benY_of hy_16; have hq : Pos l L p n := ⟨by omega, by omega, by omega, by omega, by omega, by omega, n1⟩)
    have mo5_16 := mk5_16.trans mo5_8
    have mo4_16 := mk4_16.trans mo4_8
    have mo3_16 := mk3_16.trans mo3_8
    have mo2_16 := mk2_16.trans mo2_8
    have mo1_16 := mk1_16.trans mo1_8
    have mo0_16 := mk0_16.trans mo0_8
    refine aw_env (fun e_16 he_16 => ?_)
    have s4_16 := ef 4 he_16 (up_m rfl s4_15)
    have s5_16 := ef 5 he_16 (up_m rfl s5_15)
    have s6_16 := ef 6 he_16 (up_m rfl s6_15)
    have s7_16 := ef 7 he_16 (up_m rfl s7_15)
    have s8_16 := ef 8 he_16 (up_m rfl s8_15)
    have s27_16 := ef 27 he_16 (up_m rfl s27_15)
    have s28_16 := ef 28 he_16 up_h
    clear he_16
    refine at_ <| ar (ro_assign s28_16) rfl <| ae6 (up_m rfl s4_16) (up_m rfl s5_16) (up_m rfl s6_16) (up_m rfl s7_16) (up_m rfl s8_16) up_h ?_; clear s27_16 s28_16 s4_16 s5_16 s6_16 s7_16 s8_16; intro e_17 s4_17 s5_17 s6_17 s7_17 s8_17 s10_17
    refine fallb_n ?_
    refine aw_block <| aw_seq <| at_ <| ar (ro_move s10_17) rfl <| ar (ro_ixa y26_ar85 (up_m rfl s5_17) ev_c rfl) rfl <| ar (ro_eq (ro_ld_ptr y26_ty3 rfl mo2_16 up_h (nle rfl)) (by simp only [pS, Value.cells, Nat.reduceAdd] <;> rfl)) rfl ?_
    refine ar (ro_eql (u2 rfl up_h) up_h) rfl ?_
    refine ae7 (u4 rfl s4_17) (u4 rfl s5_17) (u4 rfl s6_17) (u4 rfl s7_17) (u4 rfl s8_17) (u4 rfl s10_17) up_h ?_; clear s10_17 s4_17 s5_17 s6_17 s7_17 s8_17; intro e_18 s4_18 s5_18 s6_18 s7_18 s8_18 s10_18 s32_18
    refine then_n <| aw_case s32_18 (fun hq_19 => ?_) (fun hq_19 => ?_)
    ·replace hq_19 := bt hq_19
     refine aw_seq <| at_ <| ar (ro_eq (ro_ld_ptr y26_ty124 rfl mo5_16 s8_18 (nle rfl)) (by simp only [pS, Value.cells, Nat.reduceAdd] <;> rfl)) rfl ?_
     refine ar (ro_eq (ro_ld_ptr y26_ty28 rfl mo1_16 (up_m rfl s4_18) (nle rfl)) (by simp only [pS, Value.cells, Nat.reduceAdd] <;> rfl)) rfl ?_
     refine ar (ro_ixa y26_ar85 (u2 rfl s5_18) ev_c rfl) rfl <| ar (ro_eq (ro_ld_ptr y26_ty3 rfl mo2_16 up_h (nle rfl)) (by simp only [pS, Value.cells, Nat.reduceAdd] <;> rfl)) rfl ?_
     refine ar (ro_move (u4 rfl s10_18)) rfl <| ar (ro_call (evL_cons (u4 rfl up_h) (evL_cons (up_m rfl (u2 rfl up_h)) (evL_cons (up_m rfl up_h) (evL_cons up_h evL_nil)))) rfl (deviation_ok l h L c s p n hq) y26_hcf74) rfl <| al_stm (st_store (u2 rfl (u4 rfl s6_18)) up_h rfl rfl mo3_16 y26_sz39 rfl (nle rfl)) trivial rfl (fun m_20 hm_20 => ?_)
     have mo3_20 := m_set hm_20 mo3_16
     simp only [pS, Value.cells, Nat.reduceAdd] at mo3_20
     have mo5_20 := m_set_o hm_20 mo5_16 (by decide)
     have mo4_20 := m_set_o hm_20 mo4_16 (by decide)
     have mo2_20 := m_set_o hm_20 mo2_16 (by decide)
     have mo1_20 := m_set_o hm_20 mo1_16 (by decide)
     have mo0_20 := m_set_o hm_20 mo0_16 (by decide)
     have ml_20 := m_set_l hm_20 ml_16
     clear hm_20 mo5_16 mo4_16 mo3_16 mo2_16 mo1_16 mo0_16
     refine al_stm (st_store (up_n (u2 rfl (u4 rfl s7_18))) ev_c rfl rfl mo4_20 y26_sz34 rfl (nle rfl)) trivial rfl (fun m_21 hm_21 => ?_)
     have mo4_21 := m_set hm_21 mo4_20
     simp only [pS, Value.cells, Nat.reduceAdd] at mo4_21
     have mo3_21 := m_set_o hm_21 mo3_20 (by decide)
     have mo5_21 := m_set_o hm_21 mo5_20 (by decide)
     have mo2_21 := m_set_o hm_21 mo2_20 (by decide)
     have mo1_21 := m_set_o hm_21 mo1_20 (by decide)
     have mo0_21 := m_set_o hm_21 mo0_20 (by decide)
     have ml_21 := m_set_l hm_21 ml_20
     clear hm_21 mo3_20 mo5_20 mo4_20 mo2_20 mo1_20 mo0_20
     refine ae2 (up_n (up_n (u2 rfl (u4 rfl s6_18)))) (up_n (up_n (u2 rfl (u4 rfl s7_18)))) ?_; clear s10_18 s32_18 s4_18 s5_18 s6_18 s7_18 s8_18; intro e_22 s6_22 s7_22
     refine then_n <| aw_ret <| block_r <| rnd_r <| block_r <| then_r <| ret2 (.inr rfl) (by kernel_rfl) (resV_cell s6_15 mo3_21 y26_ty39 (nle rfl) (by simp)) (resV_cell s7_15 mo4_21 y26_ty34 (nle rfl) (by simp)) (vw_r (.ro _ rfl)) (vw_c (.ro _ rfl)) ?_
     clear s27_15 s4_15 s5_15 s6_15 s7_15 s8_15 mo4_21 mo3_21 mo5_21 mo2_21 mo1_21 mo0_21 ml_21
     (have hj : (n : Int) = j := (by assumption); rw [if_pos (benI_yes hj n1 n2 n3), ← hj]; rfl)
    replace hq_19 := bf hq_19
    refine aw_skip <| block_n <| rnd_n ⟨(mo5_16.trans mo5_8.symm), (mo4_16.trans mo4_8.symm), (mo3_16.trans mo3_8.symm), (mo2_16.trans mo2_8.symm), (mo1_16.trans mo1_8.symm), (mo0_16.trans mo0_8.symm), ml_16, ?_⟩
    (exact hinv.step hn (by assumption))
  · rintro m_16 ⟨mk5_16, mk4_16, mk3_16, mk2_16, mk1_16, mk0_16, ml_16, hinv⟩
    have mo5_16 := mk5_16.trans mo5_8
    have mo4_16 := mk4_16.trans mo4_8
    have mo3_16 := mk3_16.trans mo3_8
    have mo2_16 := mk2_16.trans mo2_8
    have mo1_16 := mk1_16.trans mo1_8
    have mo0_16 := mk0_16.trans mo0_8
    refine block_n <| then_n <| aw_seq <| at_ <| ar (ro_build evP_nil y26_bz39 y26_bu39 y26_bp39 rfl) rfl ?_
    refine al_stm (st_store (up_m rfl s6_15) up_h rfl rfl mo3_16 y26_sz39 rfl (nle rfl)) trivial rfl (fun m_23 hm_23 => ?_)
    have mo3_23 := m_set hm_23 mo3_16
    simp only [pS, Value.cells, Nat.reduceAdd] at mo3_23
    have mo5_23 := m_set_o hm_23 mo5_16 (by decide)
    have mo4_23 := m_set_o hm_23 mo4_16 (by decide)
    have mo2_23 := m_set_o hm_23 mo2_16 (by decide)
    have mo1_23 := m_set_o hm_23 mo1_16 (by decide)
    have mo0_23 := m_set_o hm_23 mo0_16 (by decide)
    have ml_23 := m_set_l hm_23 ml_16
    clear hm_23 mo5_16 mo4_16 mo3_16 mo2_16 mo1_16 mo0_16
    refine al_stm (st_store (up_n (up_m rfl s7_15)) ev_c rfl rfl mo4_23 y26_sz34 rfl (nle rfl)) trivial rfl (fun m_24 hm_24 => ?_)
    have mo4_24 := m_set hm_24 mo4_23
    simp only [pS, Value.cells, Nat.reduceAdd] at mo4_24
    have mo3_24 := m_set_o hm_24 mo3_23 (by decide)
    have mo5_24 := m_set_o hm_24 mo5_23 (by decide)
    have mo2_24 := m_set_o hm_24 mo2_23 (by decide)
    have mo1_24 := m_set_o hm_24 mo1_23 (by decide)
    have mo0_24 := m_set_o hm_24 mo0_23 (by decide)
    have ml_24 := m_set_l hm_24 ml_23
    clear hm_24 mo3_23 mo5_23 mo4_23 mo2_23 mo1_23 mo0_23
    refine ae2 (up_n (up_n (up_m rfl s6_15))) (up_n (up_n (up_m rfl s7_15))) ?_; clear s27_15 s4_15 s5_15 s6_15 s7_15 s8_15; intro e_25 s6_25 s7_25
    refine then_n <| aw_ret <| ret2 (.inr rfl) (by kernel_rfl) (resV_cell s6_25 mo3_24 y26_ty39 (nle rfl) (by simp)) (resV_cell s7_25 mo4_24 y26_ty34 (nle rfl) (by simp)) (vw_r (.ro _ rfl)) (vw_c (.ro _ rfl)) ?_
    clear s6_25 s7_25 mo4_24 mo3_24 mo5_24 mo2_24 mo1_24 mo0_24 ml_24
    (rw [if_neg (by rw [benI_no hinv]; decide)]; rfl)
end Go.Proofs.Ytonjcljnpcmenaa

