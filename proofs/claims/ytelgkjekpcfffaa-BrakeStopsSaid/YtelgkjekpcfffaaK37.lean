/- The law of chapter 5 on the stops that a train reaches. No conditions on a program. -/
import Derived.Test.YtelgkjekpcfffaaK36
namespace Go.Proofs.Ytelgkjekpcfffaa
open Go Go.RowKit Go.Proofs
set_option linter.unusedSimpArgs false
set_option linter.unusedVariables false
theorem k37_bz42 : (Try.prog.info? 42).bind (·.zero) = some (.agg #[.int .i64 0, .int .i64 0]) := by kernel_rfl
theorem k37_bu42 : Try.prog.underlying 42 = some (.struct (fsOf Try.prog 42)) := by kernel_rfl
theorem k37_bp42 : ∀ w, ((fsOf Try.prog 42).mapM fun f => Prod.mk f.offset <$> sizeOf f.type : Sem (Array (Nat × Nat))).run Try.prog w = .ok (#[(0, 1), (1, 1)]) w := fun _ => by kernel_rfl
theorem k37_fl24_1 : FldIs Try.prog 24 1 1 false 1 := by unfold FldIs; kernel_rfl
theorem k37_fl42_0 : FldIs Try.prog 42 0 0 false 1 := by unfold FldIs; kernel_rfl
theorem k37_fl42_1 : FldIs Try.prog 42 1 1 false 1 := by unfold FldIs; kernel_rfl
theorem k37_fl66_3 : FldIs Try.prog 66 3 3 false 1 := by unfold FldIs; kernel_rfl
theorem k37_hcf15 : ∀ args w, (callFunc 15 args).run Try.prog w = .ok (.enter 15 args) w := fun _ _ => by kernel_rfl
theorem k37_hcf16 : ∀ args w, (callFunc 16 args).run Try.prog w = .ok (.enter 16 args) w := fun _ _ => by kernel_rfl
theorem k37_hcf18 : ∀ args w, (callFunc 18 args).run Try.prog w = .ok (.enter 18 args) w := fun _ _ => by kernel_rfl
theorem k37_hcf19 : ∀ args w, (callFunc 19 args).run Try.prog w = .ok (.enter 19 args) w := fun _ _ => by kernel_rfl
theorem k37_hcf20 : ∀ args w, (callFunc 20 args).run Try.prog w = .ok (.enter 20 args) w := fun _ _ => by kernel_rfl
theorem k37_hcf22 : ∀ args w, (callFunc 22 args).run Try.prog w = .ok (.enter 22 args) w := fun _ _ => by kernel_rfl
theorem k37_hcf25 : ∀ args w, (callFunc 25 args).run Try.prog w = .ok (.enter 25 args) w := fun _ _ => by kernel_rfl
theorem k37_hcf30 : ∀ args w, (callFunc 30 args).run Try.prog w = .ok (.enter 30 args) w := fun _ _ => by kernel_rfl
theorem k37_hcf43 : ∀ args w, (callFunc 43 args).run Try.prog w = .ok (.enter 43 args) w := fun _ _ => by kernel_rfl
theorem k37_hcf44 : ∀ args w, (callFunc 44 args).run Try.prog w = .ok (.enter 44 args) w := fun _ _ => by kernel_rfl
theorem k37_hcf45 : ∀ args w, (callFunc 45 args).run Try.prog w = .ok (.enter 45 args) w := fun _ _ => by kernel_rfl
theorem k37_hcf46 : ∀ args w, (callFunc 46 args).run Try.prog w = .ok (.enter 46 args) w := fun _ _ => by kernel_rfl
theorem k37_hcf88 : ∀ args w, (callFunc 88 args).run Try.prog w = .ok (.enter 88 args) w := fun _ _ => by kernel_rfl
theorem k37_sl22 : SlIs Try.prog 22 66 4 32 (.agg #[.int .i64 0, .int .i64 0, .int .i64 0, .bool false]) := ⟨by kernel_rfl, by kernel_rfl, by kernel_rfl⟩
theorem k37_sl30 : SlIs Try.prog 30 3 1 8 (.int .i64 0) := ⟨by kernel_rfl, by kernel_rfl, by kernel_rfl⟩
theorem k37_ty22 : TyIs Try.prog 22 false 1 := ⟨by kernel_rfl, by kernel_rfl⟩
theorem k37_ty24 : TyIs Try.prog 24 true 2 := ⟨by kernel_rfl, by kernel_rfl⟩
theorem k37_ty26 : TyIs Try.prog 26 true 3 := ⟨by kernel_rfl, by kernel_rfl⟩
theorem k37_ty3 : TyIs Try.prog 3 false 1 := ⟨by kernel_rfl, by kernel_rfl⟩
theorem k37_ty4 : TyIs Try.prog 4 false 1 := ⟨by kernel_rfl, by kernel_rfl⟩
theorem k37_ty42 : TyIs Try.prog 42 true 2 := ⟨by kernel_rfl, by kernel_rfl⟩

theorem run_none {ps : List Piece} {b d stop post sq : Int} (h : cuA ps b stop post.toNat = -1) : (runW ps b d stop post sq).2 = 24 := by
  have h' : (bwL ps b 0 (stop + 1).toNat).getD post.toNat default = -1 := h
  rw [runW, if_pos (.inl h')]
theorem tp_eq (ps : List Piece) (b post k : Int) (hk : 0 ≤ k) : tpA ps b post k.toNat = (bwL ps b 0 (k + 1).toNat).getD post.toNat default := by
  unfold tpA cuA
  rw [show ((k.toNat : Nat) : Int) = k by omega]
/-- A stop more. -/
theorem ga_yes {ps : List Piece} {b d post k : Int} (h0 : 0 ≤ post ∧ post ≤ k) (hl : (ps.getD k.toNat default).leave = true) : gaF ps b d post (stP ps post (k + 1)) = gaS ps b d post (gaF ps b d post (stP ps post k)) k.toNat := by
  rw [stP_yes h0 hl]
  unfold gaF
  rw [List.foldl_append]; rfl
def GaI (ps : List Piece) (b d post k o : Int) (f : Bool) : Prop := f = decide (gaF ps b d post (stP ps post k) ≠ -1) ∧ o = if gaF ps b d post (stP ps post k) = -1 then 0 else gaF ps b d post (stP ps post k)
theorem ga_take {ps : List Piece} {b d post k o : Int} {f : Bool} (h0 : 0 ≤ post ∧ post ≤ k) (hl : (ps.getD k.toNat default).leave = true) (hi : GaI ps b d post k o f) (hb : -1 ≤ gaF ps b d post (stP ps post k))
    (ht : ¬ (bwL ps b 0 (k + 1).toNat).getD post.toNat default = -1) (ht1 : -1 ≤ (bwL ps b 0 (k + 1).toNat).getD post.toNat default) (hr : (runW ps b d k post ((bwL ps b 0 (k + 1).toNat).getD post.toNat default)).2 = 0) (hf : f = false ∨ o < (bwL ps b 0 (k + 1).toNat).getD post.toNat default) :
    GaI ps b d post (k + 1) ((bwL ps b 0 (k + 1).toNat).getD post.toNat default) true ∧ -1 ≤ gaF ps b d post (stP ps post (k + 1)) := by
  have he := tp_eq ps b post k (by omega)
  obtain ⟨hi1, hi2⟩ := hi
  have hk : ((k.toNat : Nat) : Int) = k := by omega
  have hg : gaF ps b d post (stP ps post (k + 1)) = max (gaF ps b d post (stP ps post k)) ((bwL ps b 0 (k + 1).toNat).getD post.toNat default) := by
    rw [ga_yes h0 hl, gaS, he, hk, if_pos hr]
  have hx : gaF ps b d post (stP ps post (k + 1)) = (bwL ps b 0 (k + 1).toNat).getD post.toNat default := by
    rw [hg]
    by_cases hm : gaF ps b d post (stP ps post k) = -1
    · omega
    · rw [if_neg hm] at hi2
      rw [decide_eq_true hm] at hi1
      rcases hf with hf | hf
      · rw [hi1] at hf; cases hf
      · omega
  unfold GaI
  rw [hx]
  exact ⟨⟨(decide_eq_true ht).symm, by rw [if_neg ht]⟩, ht1⟩
theorem ga_stay {ps : List Piece} {b d post k o : Int} {f : Bool} (h0 : 0 ≤ post ∧ post ≤ k) (hi : GaI ps b d post k o f) (hb : -1 ≤ gaF ps b d post (stP ps post k))
    (hf : (ps.getD k.toNat default).leave = false ∨ (bwL ps b 0 (k + 1).toNat).getD post.toNat default = -1 ∨ (¬ (runW ps b d k post ((bwL ps b 0 (k + 1).toNat).getD post.toNat default)).2 = 0) ∨ (f = true ∧ ¬ o < (bwL ps b 0 (k + 1).toNat).getD post.toNat default)) :
    GaI ps b d post (k + 1) o f ∧ -1 ≤ gaF ps b d post (stP ps post (k + 1)) := by
  have he := tp_eq ps b post k (by omega)
  have hk : ((k.toNat : Nat) : Int) = k := by omega
  have hx : gaF ps b d post (stP ps post (k + 1)) = gaF ps b d post (stP ps post k) := by
    cases hl : (ps.getD k.toNat default).leave with
    | false => rw [stP_no h0 hl]
    | true =>
      rw [ga_yes h0 hl, gaS, he, hk]
      rcases hf with hf | hf | hf | ⟨hf, hf2⟩
      · rw [hl] at hf; cases hf
      · have := run_none (ps := ps) (b := b) (d := d) (stop := k) (post := post) (sq := (bwL ps b 0 (k + 1).toNat).getD post.toNat default) hf
        rw [if_neg (by rw [this]; decide)]
      · rw [if_neg hf]
      · split
        · obtain ⟨hi1, hi2⟩ := hi
          have hm : ¬ gaF ps b d post (stP ps post k) = -1 := by rw [hf] at hi1; exact of_decide_eq_true hi1.symm
          rw [if_neg hm] at hi2
          omega
        · rfl
  unfold GaI
  rw [hx]
  exact ⟨hi, hb⟩
set_option maxRecDepth 100000 in
set_option maxHeartbeats 4000000 in
theorem rGreatestAt_ok (nm : ByteArray) (ps : List Piece) (hok : trackR ps) (b d v : Int) (hb : sysR b d v) (post : Int) (h0 : 0 ≤ post ∧ post ≤ ps.length) :
    FnOk Try.prog 45 [trA nm ps, syA b d v, iA post] (fun q => q = .tuple [iA (if gaW ps b d post = -1 then 0 else gaW ps b d post), bA (decide (gaW ps b d post ≠ -1))]) := by
  obtain ⟨q1, q2, q3⟩ := id hok
  refine fnOk_of (fn := Try.f45) 57 (by kernel_rfl) rfl (by kernel_rfl) (Nat.le_of_ble_eq_true rfl) ?_
  intro e_0 m_0 hA hm_0
  have s0_0 : evA e_0 (.tmp 0) = _ := hA 0 _ rfl
  have s1_0 : evA e_0 (.tmp 1) = _ := hA 1 _ rfl
  have s2_0 : evA e_0 (.tmp 2) = _ := hA 2 _ rfl
  have ml_0 : m_0.length = 0 := by rw [hm_0]; rfl
  clear hA hm_0
  refine aw_seq ?_
  refine aw_text (by kernel_rfl) ?_
  refine al_stm (st_box s0_0 rfl ml_0) trivial rfl (fun m_1 hm_1 => ?_)
  have mo0_1 := m_push hm_1 ml_0
  (try simp only [packA_t, packA_f, iE, bE, setAt, cellsA, Value.cells, map_vc, map_vn, Nat.reduceAdd, qS, pE] at mo0_1)
  have ml_1 := m_push_l hm_1 ml_0
  have ml_1 : _ = 1 := ml_1
  clear hm_1
  refine al_stm (st_box (up_m rfl s1_0) rfl ml_1) trivial rfl (fun m_2 hm_2 => ?_)
  have mo1_2 := m_push hm_2 ml_1
  (try simp only [packA_t, packA_f, iE, bE, setAt, cellsA, Value.cells, map_vc, map_vn, Nat.reduceAdd, qS, pE] at mo1_2)
  have mo0_2 := m_push_o hm_2 mo0_1
  have ml_2 := m_push_l hm_2 ml_1
  have ml_2 : _ = 2 := ml_2
  clear hm_2 mo0_1
  refine al_ro' (ro_assign ev_c) trivial rfl ?_
  refine al_ro' (ro_assign ev_c) trivial rfl ?_
  refine al_end (fun e_3 he_3 => ?_)
  have s2_3 := ef 2 he_3 (u4 rfl s2_0)
  have s3_3 := ef 3 he_3 (up_m rfl (u2 rfl up_h))
  have s4_3 := ef 4 he_3 (u2 rfl up_h)
  clear he_3 s0_0 s1_0 s2_0
  refine then_n ?_
  refine aw_seq ?_
  refine aw_text (by kernel_rfl) ?_
  refine al_ro' (ro_assign ev_c) trivial rfl ?_
  refine al_ro' (ro_assign ev_c) trivial rfl ?_
  refine al_end (fun e_4 he_4 => ?_)
  have s2_4 := ef 2 he_4 (u2 rfl s2_3)
  have s3_4 := ef 3 he_4 (u2 rfl s3_3)
  have s4_4 := ef 4 he_4 (u2 rfl s4_3)
  have s8_4 := ef 8 he_4 (up_m rfl up_h)
  have s9_4 := ef 9 he_4 up_h
  clear he_4 s2_3 s3_3 s4_3
  refine then_n ?_
  refine aw_seq ?_
  refine aw_seq ?_
  refine aw_text (by kernel_rfl) ?_
  refine al_ro' (ro_move s2_4) trivial rfl ?_
  refine al_ro' (ro_assign up_h) trivial rfl ?_
  refine al_end (fun e_5 he_5 => ?_)
  have s2_5 := ef 2 he_5 (u2 rfl s2_4)
  have s3_5 := ef 3 he_5 (u2 rfl s3_4)
  have s4_5 := ef 4 he_5 (u2 rfl s4_4)
  have s8_5 := ef 8 he_5 (u2 rfl s8_4)
  have s9_5 := ef 9 he_5 (u2 rfl s9_4)
  have s10_5 := ef 10 he_5 up_h
  clear he_5 s2_4 s3_4 s4_4 s8_4 s9_4
  refine then_n ?_
  refine aw_block ?_
  refine aw_loop (S := (Int × Int × Bool)) (fun s e mem => match s with | ⟨k, o, f⟩ => (evA e (.tmp 10) = .v (.int .i64 k)) ∧ (evA e (.tmp 8) = .v (.int .i64 o)) ∧ (evA e (.tmp 9) = .v (.bool f)) ∧ (evA e (.tmp 2) = evA e_5 (.tmp 2)) ∧ (evA e (.tmp 3) = evA e_5 (.tmp 3)) ∧ (evA e (.tmp 4) = evA e_5 (.tmp 4)) ∧ (mem[1]? = m_2[1]?) ∧ (mem[0]? = m_2[0]?) ∧ (mem.length = 2) ∧ ((post ≤ k ∧ k ≤ ps.length ∧ GaI ps b d post k o f ∧ -1 ≤ gaF ps b d post (stP ps post k)))) (fun s => match s with | ⟨k, o, f⟩ => (ps.length - k).toNat) ⟨_, _, _⟩ ⟨s10_5, s8_5, s9_5, rfl, rfl, rfl, rfl, rfl, ml_2, ?_⟩ ?_
  · (refine ⟨by omega, by omega, ?_, ?_⟩; (unfold GaI; rw [stP_none h0.1]; exact ⟨rfl, rfl⟩); (rw [stP_none h0.1]; exact Int.le_refl _))
  · rintro ⟨k, o, f⟩ e_6 m_6 ⟨s10_6, s8_6, s9_6, k2_6, k3_6, k4_6, mk1_6, mk0_6, ml_6, hinv⟩
    have s2_6 := k2_6.trans s2_5
    have s3_6 := k3_6.trans s3_5
    have s4_6 := k4_6.trans s4_5
    have mo1_6 := mk1_6.trans mo1_2
    have mo0_6 := mk0_6.trans mo0_2
    (obtain ⟨p1, p2, p3, p4⟩ := hinv)
    refine aw_seq ?_
    refine aw_seq ?_
    refine aw_text (by kernel_rfl) ?_
    refine al_ro' (ro_move s10_6) trivial rfl ?_
    refine al_ro' (ro_fld_ptr k37_fl24_1 rfl (up_m rfl s3_6)) trivial rfl ?_
    refine al_ro' (ro_eq (ro_ld_ptr k37_ty22 rfl mo0_6 up_h (by first | exact Nat.le_of_ble_eq_true rfl | omega | (simp only [lnS] <;> omega) | (simp <;> omega))) (by first | (simp only [packA_t, packA_f, iE, bE, setAt, cellsA, Value.cells, map_vc, map_vn, Nat.reduceAdd, qS, pE] <;> rfl) | rfl)) trivial rfl ?_
    refine al_ro' (ro_eq (ro_len_row up_h rfl k37_sl22.1) (by first | (simp only [lnS] <;> rfl) | rfl)) trivial rfl ?_
    refine al_ro' (ro_lss (up_m rfl (u2 rfl up_h)) up_h) trivial rfl ?_
    refine al_end (fun e_7 he_7 => ?_)
    have s2_7 := ef 2 he_7 (up_m rfl (u4 rfl s2_6))
    have s3_7 := ef 3 he_7 (up_m rfl (u4 rfl s3_6))
    have s4_7 := ef 4 he_7 (up_m rfl (u4 rfl s4_6))
    have s8_7 := ef 8 he_7 (up_m rfl (u4 rfl s8_6))
    have s9_7 := ef 9 he_7 (up_m rfl (u4 rfl s9_6))
    have s10_7 := ef 10 he_7 (up_m rfl (u4 rfl s10_6))
    have s17_7 := ef 17 he_7 up_h
    clear he_7 s10_6 s2_6 s3_6 s4_6 s8_6 s9_6
    refine then_n ?_
    refine aw_case s17_7 (fun hq_8 => ?_) (fun hq_8 => ?_)
    · (first | replace hq_8 := bnt hq_8 | replace hq_8 := bnf hq_8 | replace hq_8 := bt hq_8 | replace hq_8 := bf hq_8 | replace hq_8 := bt' hq_8 | replace hq_8 := bf' hq_8 | skip)
      first
      | (cases hq_8; done) | (exfalso; omega)
      | (
         (have htb := tpA_bound hok b post k.toNat (by omega) (by omega); rw [tp_eq ps b post k (by omega)] at htb; have hbl := bwL_len ps b 0 (k + 1).toNat)
         refine aw_skip ?_
         refine then_n ?_
         refine aw_seq ?_
         refine aw_block ?_
         refine aw_seq ?_
         refine aw_seq ?_
         refine aw_text (by kernel_rfl) ?_
         refine al_ro' (ro_fld_ptr k37_fl24_1 rfl s3_7) trivial rfl ?_
         refine al_ro' (ro_eq (ro_ld_ptr k37_ty22 rfl mo0_6 up_h (by first | exact Nat.le_of_ble_eq_true rfl | omega | (simp only [lnS] <;> omega) | (simp <;> omega))) (by first | (simp only [packA_t, packA_f, iE, bE, setAt, cellsA, Value.cells, map_vc, map_vn, Nat.reduceAdd, qS, pE] <;> rfl) | rfl)) trivial rfl ?_
         refine al_ro' (ro_move (u2 rfl s10_7)) trivial rfl ?_
         refine al_ro' (ro_eq (ro_ix k37_sl22 (up_m rfl up_h) up_h (by first | decide | omega | (simp <;> omega)) (by first | (refine idx_map ?_; first | omega | (simp only [lnS]; omega)) | (refine idx_mapI ?_; first | omega | (simp only [lnS]; omega)) | (refine idx_mapN ?_; first | omega | (simp only [lnS]; omega)) | rfl)) (by first | (simp only [packA_t, packA_f, iE, bE, setAt, cellsA, Value.cells, map_vc, map_vn, Nat.reduceAdd, qS, pE] <;> rfl) | rfl)) trivial rfl ?_
         refine al_ro' (ro_eq (ro_fld_ref k37_fl66_3 rfl up_h) (by first | (simp only [packA_t, packA_f, iE, bE, setAt, cellsA, Value.cells, map_vc, map_vn, Nat.reduceAdd, qS, pE] <;> rfl) | rfl)) trivial rfl ?_
         refine al_ro' (ro_eq (ro_ld_ref k37_ty4 rfl up_h (by first | exact Nat.le_of_ble_eq_true rfl | omega | (simp only [lnS] <;> omega) | (simp <;> omega))) (by first | (simp only [packA_t, packA_f, iE, bE, setAt, cellsA, Value.cells, map_vc, map_vn, Nat.reduceAdd, qS, pE] <;> rfl) | rfl)) trivial rfl ?_
         refine al_ro' (ro_not up_h) trivial rfl ?_
         refine al_end (fun e_9 he_9 => ?_)
         have s2_9 := ef 2 he_9 (up_m rfl (u2 rfl (u4 rfl s2_7)))
         have s3_9 := ef 3 he_9 (up_m rfl (u2 rfl (u4 rfl s3_7)))
         have s4_9 := ef 4 he_9 (up_m rfl (u2 rfl (u4 rfl s4_7)))
         have s8_9 := ef 8 he_9 (up_m rfl (u2 rfl (u4 rfl s8_7)))
         have s9_9 := ef 9 he_9 (up_m rfl (u2 rfl (u4 rfl s9_7)))
         have s10_9 := ef 10 he_9 (up_m rfl (u2 rfl (u4 rfl s10_7)))
         have s26_9 := ef 26 he_9 up_h
         clear he_9 s10_7 s17_7 s2_7 s3_7 s4_7 s8_7 s9_7
         refine then_n ?_
         refine aw_case s26_9 (fun hq_10 => ?_) (fun hq_10 => ?_)
         · (first | replace hq_10 := bnt hq_10 | replace hq_10 := bnf hq_10 | replace hq_10 := bt hq_10 | replace hq_10 := bf hq_10 | replace hq_10 := bt' hq_10 | replace hq_10 := bf' hq_10 | skip)
           first
           | (cases hq_10; done) | (exfalso; omega)
           | (
              refine aw_exit ?_
              refine then_x ?_
              refine block_hit ?_
              refine then_n ?_
              refine aw_text (by kernel_rfl) ?_
              refine al_ro' (ro_move s10_9) trivial rfl ?_
              first | (refine al_ro' (ro_add' up_h ev_c ?_) trivial rfl ?_; · (unfold In64; omega)) | refine al_ro' (ro_add up_h ev_c) trivial rfl ?_
              refine al_ro' (ro_assign up_h) trivial rfl ?_
              refine al_end (fun e_11 he_11 => ?_)
              have s2_11 := ef 2 he_11 (up_m rfl (u2 rfl s2_9))
              have s3_11 := ef 3 he_11 (up_m rfl (u2 rfl s3_9))
              have s4_11 := ef 4 he_11 (up_m rfl (u2 rfl s4_9))
              have s8_11 := ef 8 he_11 (up_m rfl (u2 rfl s8_9))
              have s9_11 := ef 9 he_11 (up_m rfl (u2 rfl s9_9))
              have s10_11 := ef 10 he_11 up_h
              clear he_11 s10_9 s26_9 s2_9 s3_9 s4_9 s8_9 s9_9
              refine then_n ?_
              refine ⟨⟨_, _, _⟩, ⟨s10_11, s8_11, s9_11, (s2_11.trans s2_5.symm), (s3_11.trans s3_5.symm), (s4_11.trans s4_5.symm), (mo1_6.trans mo1_2.symm), (mo0_6.trans mo0_2.symm), ml_6, ?_⟩, ?_⟩
              · (first | exact ⟨by omega, by omega, ga_take ⟨h0.1, p1⟩ (by assumption) p3 p4 (by assumption) (by omega) (by assumption) (by first | exact .inl (by assumption) | exact .inr (by assumption))⟩ | exact ⟨by omega, by omega, ga_stay ⟨h0.1, p1⟩ p3 p4 (by first | exact .inl (by assumption) | exact .inr (.inl (by assumption)) | exact .inr (.inr (.inl (by assumption))) | exact .inr (.inr (.inr ⟨by assumption, by assumption⟩)))⟩)
              · ((try dsimp only); omega))
         · (first | replace hq_10 := bnt hq_10 | replace hq_10 := bnf hq_10 | replace hq_10 := bt hq_10 | replace hq_10 := bf hq_10 | replace hq_10 := bt' hq_10 | replace hq_10 := bf' hq_10 | skip)
           first
           | (cases hq_10; done) | (exfalso; omega)
           | (
              refine aw_skip ?_
              refine then_n ?_
              refine aw_seq ?_
              refine aw_text (by kernel_rfl) ?_
              refine al_ro' (ro_eq (ro_ld_ptr k37_ty24 rfl mo0_6 s3_9 (by first | exact Nat.le_of_ble_eq_true rfl | omega | (simp only [lnS] <;> omega) | (simp <;> omega))) (by first | (simp only [packA_t, packA_f, iE, bE, setAt, cellsA, Value.cells, map_vc, map_vn, Nat.reduceAdd, qS, pE] <;> rfl) | rfl)) trivial rfl ?_
              refine al_ro' (ro_eq (ro_ld_ptr k37_ty26 rfl mo1_6 (up_m rfl s4_9) (by first | exact Nat.le_of_ble_eq_true rfl | omega | (simp only [lnS] <;> omega) | (simp <;> omega))) (by first | (simp only [packA_t, packA_f, iE, bE, setAt, cellsA, Value.cells, map_vc, map_vn, Nat.reduceAdd, qS, pE] <;> rfl) | rfl)) trivial rfl ?_
              refine al_ro' (ro_move (u2 rfl s10_9)) trivial rfl ?_
              refine al_ro' (ro_call (evL_cons (u2 rfl up_h) (evL_cons (up_m rfl up_h) (evL_cons up_h evL_nil))) rfl (rCurveOf_ok nm ps hok b d v hb k (by omega) (by omega)) k37_hcf30) trivial rfl ?_
              refine al_ro' (ro_move (u4 rfl s2_9)) trivial rfl ?_
              refine al_ro' (ro_eq (ro_ix k37_sl30 (up_m rfl up_h) up_h (by first | decide | omega | (simp <;> omega)) (by first | (refine idx_map ?_; first | omega | (simp only [lnS]; omega)) | (refine idx_mapI ?_; first | omega | (simp only [lnS]; omega)) | (refine idx_mapN ?_; first | omega | (simp only [lnS]; omega)) | rfl)) (by first | (simp only [packA_t, packA_f, iE, bE, setAt, cellsA, Value.cells, map_vc, map_vn, Nat.reduceAdd, qS, pE] <;> rfl) | rfl)) trivial rfl ?_
              refine al_ro' (ro_eq (ro_ld_ref k37_ty3 rfl up_h (by first | exact Nat.le_of_ble_eq_true rfl | omega | (simp only [lnS] <;> omega) | (simp <;> omega))) (by first | (simp only [packA_t, packA_f, iE, bE, setAt, cellsA, Value.cells, map_vc, map_vn, Nat.reduceAdd, qS, pE] <;> rfl) | rfl)) trivial rfl ?_
              refine al_ro' (ro_assign up_h) trivial rfl ?_
              refine al_end (fun e_12 he_12 => ?_)
              have s2_12 := ef 2 he_12 (u8 rfl s2_9)
              have s3_12 := ef 3 he_12 (u8 rfl s3_9)
              have s4_12 := ef 4 he_12 (u8 rfl s4_9)
              have s8_12 := ef 8 he_12 (u8 rfl s8_9)
              have s9_12 := ef 9 he_12 (u8 rfl s9_9)
              have s10_12 := ef 10 he_12 (u8 rfl s10_9)
              have s11_12 := ef 11 he_12 up_h
              clear he_12 s10_9 s26_9 s2_9 s3_9 s4_9 s8_9 s9_9
              refine then_n ?_
              refine aw_seq ?_
              refine aw_text (by kernel_rfl) ?_
              refine al_ro' (ro_move s11_12) trivial rfl ?_
              refine al_ro' (ro_neq up_h ev_c) trivial rfl ?_
              refine al_ro' (ro_move up_h) trivial rfl ?_
              refine al_case up_h (fun hb_13 hq_13 => ?_) (fun hb_13 hq_13 => ?_)
              · (first | replace hq_13 := bnt hq_13 | replace hq_13 := bnf hq_13 | replace hq_13 := bt hq_13 | replace hq_13 := bf hq_13 | replace hq_13 := bt' hq_13 | replace hq_13 := bf' hq_13 | skip)
                first
                | (cases hq_13; done) | (exfalso; omega)
                | (
                   refine al_ro' (ro_eq (ro_ld_ptr k37_ty24 rfl mo0_6 (up_m rfl (u2 rfl s3_12)) (by first | exact Nat.le_of_ble_eq_true rfl | omega | (simp only [lnS] <;> omega) | (simp <;> omega))) (by first | (simp only [packA_t, packA_f, iE, bE, setAt, cellsA, Value.cells, map_vc, map_vn, Nat.reduceAdd, qS, pE] <;> rfl) | rfl)) ⟨_, rfl, hb_13⟩ rfl ?_
                   refine al_ro' (ro_eq (ro_ld_ptr k37_ty26 rfl mo1_6 (u4 rfl s4_12) (by first | exact Nat.le_of_ble_eq_true rfl | omega | (simp only [lnS] <;> omega) | (simp <;> omega))) (by first | (simp only [packA_t, packA_f, iE, bE, setAt, cellsA, Value.cells, map_vc, map_vn, Nat.reduceAdd, qS, pE] <;> rfl) | rfl)) ⟨_, rfl, (up_m rfl hb_13)⟩ rfl ?_
                   refine al_ro' (ro_move (up_m rfl (u4 rfl s2_12))) ⟨_, rfl, (u2 rfl hb_13)⟩ rfl ?_
                   refine al_ro' (ro_move (u2 rfl (u4 rfl s11_12))) ⟨_, rfl, (up_m rfl (u2 rfl hb_13))⟩ rfl ?_
                   refine al_ro' (ro_build (evP_cons (up_m rfl up_h) (evP_cons up_h evP_nil)) k37_bz42 k37_bu42 k37_bp42 rfl) ⟨_, rfl, (u4 rfl hb_13)⟩ rfl ?_
                   refine al_ro' (ro_move (u8 rfl s10_12)) ⟨_, rfl, (up_m rfl (u4 rfl hb_13))⟩ rfl ?_
                   refine al_ro' (ro_call (evL_cons (up_m rfl (u4 rfl up_h)) (evL_cons (u4 rfl up_h) (evL_cons (up_m rfl up_h) (evL_cons up_h evL_nil)))) rfl (rReaches_ok nm ps hok b d v hb post _ k h0.1 (by omega) (by omega) (by omega)) k37_hcf88) ⟨_, rfl, (u2 rfl (u4 rfl hb_13))⟩ rfl ?_
                   refine al_ro' (ro_pickT (up_m rfl (u2 rfl (u4 rfl hb_13))) up_h) trivial rfl ?_
                   refine al_ro' (ro_move up_h) trivial rfl ?_
                   refine al_case up_h (fun hb_14 hq_14 => ?_) (fun hb_14 hq_14 => ?_)
                   · (first | replace hq_14 := bnt hq_14 | replace hq_14 := bnf hq_14 | replace hq_14 := bt hq_14 | replace hq_14 := bf hq_14 | replace hq_14 := bt' hq_14 | replace hq_14 := bf' hq_14 | skip)
                     first
                     | (cases hq_14; done) | (exfalso; omega)
                     | (
                        refine al_ro' (ro_move (u4 rfl (u8 rfl s9_12))) ⟨_, rfl, hb_14⟩ rfl ?_
                        refine al_ro' (ro_not up_h) ⟨_, rfl, (up_m rfl hb_14)⟩ rfl ?_
                        refine al_ro' (ro_move up_h) ⟨_, rfl, (u2 rfl hb_14)⟩ rfl ?_
                        refine al_case up_h (fun hb_15 hq_15 => ?_) (fun hb_15 hq_15 => ?_)
                        · (first | replace hq_15 := bnt hq_15 | replace hq_15 := bnf hq_15 | replace hq_15 := bt hq_15 | replace hq_15 := bf hq_15 | replace hq_15 := bt' hq_15 | replace hq_15 := bf' hq_15 | skip)
                          first
                          | (cases hq_15; done) | (exfalso; omega)
                          | (
                             refine al_skip' ⟨_, rfl, .inl hb_15⟩ rfl ?_
                             refine al_skip' ⟨_, rfl, .inl (up_m rfl hb_15)⟩ rfl ?_
                             refine al_skip' ⟨_, rfl, .inl (u2 rfl hb_15)⟩ rfl ?_
                             refine al_ro' (ro_pickT (up_m rfl (u2 rfl hb_15)) ev_c) ⟨_, rfl, (u2 rfl (u4 rfl hb_14))⟩ rfl ?_
                             refine al_ro' (ro_pickT (up_m rfl (u2 rfl (u4 rfl hb_14))) up_h) trivial rfl ?_
                             refine al_end (fun e_16 he_16 => ?_)
                             have s2_16 := ef 2 he_16 (u4 rfl (u16 rfl s2_12))
                             have s3_16 := ef 3 he_16 (u4 rfl (u16 rfl s3_12))
                             have s4_16 := ef 4 he_16 (u4 rfl (u16 rfl s4_12))
                             have s8_16 := ef 8 he_16 (u4 rfl (u16 rfl s8_12))
                             have s9_16 := ef 9 he_16 (u4 rfl (u16 rfl s9_12))
                             have s10_16 := ef 10 he_16 (u4 rfl (u16 rfl s10_12))
                             have s11_16 := ef 11 he_16 (u4 rfl (u16 rfl s11_12))
                             have s53_16 := ef 53 he_16 up_h
                             clear he_16 hb_13 hb_14 hb_15 s10_12 s11_12 s2_12 s3_12 s4_12 s8_12 s9_12
                             refine then_n ?_
                             refine aw_true s53_16 ?_
                             refine aw_text (by kernel_rfl) ?_
                             refine al_ro' (ro_move s11_16) trivial rfl ?_
                             refine al_ro' (ro_assign up_h) trivial rfl ?_
                             refine al_ro' (ro_assign ev_c) trivial rfl ?_
                             refine al_end (fun e_18 he_18 => ?_)
                             have s2_18 := ef 2 he_18 (up_m rfl (u2 rfl s2_16))
                             have s3_18 := ef 3 he_18 (up_m rfl (u2 rfl s3_16))
                             have s4_18 := ef 4 he_18 (up_m rfl (u2 rfl s4_16))
                             have s8_18 := ef 8 he_18 (up_m rfl up_h)
                             have s9_18 := ef 9 he_18 up_h
                             have s10_18 := ef 10 he_18 (up_m rfl (u2 rfl s10_16))
                             clear he_18 s10_16 s11_16 s2_16 s3_16 s4_16 s53_16 s8_16 s9_16
                             refine block_n ?_
                             refine then_n ?_
                             refine aw_text (by kernel_rfl) ?_
                             refine al_ro' (ro_move s10_18) trivial rfl ?_
                             first | (refine al_ro' (ro_add' up_h ev_c ?_) trivial rfl ?_; · (unfold In64; omega)) | refine al_ro' (ro_add up_h ev_c) trivial rfl ?_
                             refine al_ro' (ro_assign up_h) trivial rfl ?_
                             refine al_end (fun e_19 he_19 => ?_)
                             have s2_19 := ef 2 he_19 (up_m rfl (u2 rfl s2_18))
                             have s3_19 := ef 3 he_19 (up_m rfl (u2 rfl s3_18))
                             have s4_19 := ef 4 he_19 (up_m rfl (u2 rfl s4_18))
                             have s8_19 := ef 8 he_19 (up_m rfl (u2 rfl s8_18))
                             have s9_19 := ef 9 he_19 (up_m rfl (u2 rfl s9_18))
                             have s10_19 := ef 10 he_19 up_h
                             clear he_19 s10_18 s2_18 s3_18 s4_18 s8_18 s9_18
                             refine then_n ?_
                             refine ⟨⟨_, _, _⟩, ⟨s10_19, s8_19, s9_19, (s2_19.trans s2_5.symm), (s3_19.trans s3_5.symm), (s4_19.trans s4_5.symm), (mo1_6.trans mo1_2.symm), (mo0_6.trans mo0_2.symm), ml_6, ?_⟩, ?_⟩
                             · (first | exact ⟨by omega, by omega, ga_take ⟨h0.1, p1⟩ (by assumption) p3 p4 (by assumption) (by omega) (by assumption) (by first | exact .inl (by assumption) | exact .inr (by assumption))⟩ | exact ⟨by omega, by omega, ga_stay ⟨h0.1, p1⟩ p3 p4 (by first | exact .inl (by assumption) | exact .inr (.inl (by assumption)) | exact .inr (.inr (.inl (by assumption))) | exact .inr (.inr (.inr ⟨by assumption, by assumption⟩)))⟩)
                             · ((try dsimp only); omega))
                        · (first | replace hq_15 := bnt hq_15 | replace hq_15 := bnf hq_15 | replace hq_15 := bt hq_15 | replace hq_15 := bf hq_15 | replace hq_15 := bt' hq_15 | replace hq_15 := bf' hq_15 | skip)
                          first
                          | (cases hq_15; done) | (exfalso; omega)
                          | (
                             refine al_ro' (ro_move (up_m rfl (u2 rfl (u4 rfl (u8 rfl s11_12))))) ⟨_, rfl, hb_15⟩ rfl ?_
                             refine al_ro' (ro_move (u16 rfl s8_12)) ⟨_, rfl, (up_m rfl hb_15)⟩ rfl ?_
                             refine al_ro' (ro_gtr (up_m rfl up_h) up_h) ⟨_, rfl, (u2 rfl hb_15)⟩ rfl ?_
                             refine al_ro' (ro_pickF (up_m rfl (u2 rfl hb_15)) up_h) ⟨_, rfl, (u2 rfl (u4 rfl hb_14))⟩ rfl ?_
                             refine al_ro' (ro_pickT (up_m rfl (u2 rfl (u4 rfl hb_14))) up_h) trivial rfl ?_
                             refine al_end (fun e_20 he_20 => ?_)
                             have s2_20 := ef 2 he_20 (u4 rfl (u16 rfl s2_12))
                             have s3_20 := ef 3 he_20 (u4 rfl (u16 rfl s3_12))
                             have s4_20 := ef 4 he_20 (u4 rfl (u16 rfl s4_12))
                             have s8_20 := ef 8 he_20 (u4 rfl (u16 rfl s8_12))
                             have s9_20 := ef 9 he_20 (u4 rfl (u16 rfl s9_12))
                             have s10_20 := ef 10 he_20 (u4 rfl (u16 rfl s10_12))
                             have s11_20 := ef 11 he_20 (u4 rfl (u16 rfl s11_12))
                             have s53_20 := ef 53 he_20 up_h
                             clear he_20 hb_13 hb_14 hb_15 s10_12 s11_12 s2_12 s3_12 s4_12 s8_12 s9_12
                             refine then_n ?_
                             refine aw_case s53_20 (fun hq_21 => ?_) (fun hq_21 => ?_)
                             · (first | replace hq_21 := bnt hq_21 | replace hq_21 := bnf hq_21 | replace hq_21 := bt hq_21 | replace hq_21 := bf hq_21 | replace hq_21 := bt' hq_21 | replace hq_21 := bf' hq_21 | skip)
                               first
                               | (cases hq_21; done) | (exfalso; omega)
                               | (
                                  refine aw_text (by kernel_rfl) ?_
                                  refine al_ro' (ro_move s11_20) trivial rfl ?_
                                  refine al_ro' (ro_assign up_h) trivial rfl ?_
                                  refine al_ro' (ro_assign ev_c) trivial rfl ?_
                                  refine al_end (fun e_22 he_22 => ?_)
                                  have s2_22 := ef 2 he_22 (up_m rfl (u2 rfl s2_20))
                                  have s3_22 := ef 3 he_22 (up_m rfl (u2 rfl s3_20))
                                  have s4_22 := ef 4 he_22 (up_m rfl (u2 rfl s4_20))
                                  have s8_22 := ef 8 he_22 (up_m rfl up_h)
                                  have s9_22 := ef 9 he_22 up_h
                                  have s10_22 := ef 10 he_22 (up_m rfl (u2 rfl s10_20))
                                  clear he_22 s10_20 s11_20 s2_20 s3_20 s4_20 s53_20 s8_20 s9_20
                                  refine block_n ?_
                                  refine then_n ?_
                                  refine aw_text (by kernel_rfl) ?_
                                  refine al_ro' (ro_move s10_22) trivial rfl ?_
                                  first | (refine al_ro' (ro_add' up_h ev_c ?_) trivial rfl ?_; · (unfold In64; omega)) | refine al_ro' (ro_add up_h ev_c) trivial rfl ?_
                                  refine al_ro' (ro_assign up_h) trivial rfl ?_
                                  refine al_end (fun e_23 he_23 => ?_)
                                  have s2_23 := ef 2 he_23 (up_m rfl (u2 rfl s2_22))
                                  have s3_23 := ef 3 he_23 (up_m rfl (u2 rfl s3_22))
                                  have s4_23 := ef 4 he_23 (up_m rfl (u2 rfl s4_22))
                                  have s8_23 := ef 8 he_23 (up_m rfl (u2 rfl s8_22))
                                  have s9_23 := ef 9 he_23 (up_m rfl (u2 rfl s9_22))
                                  have s10_23 := ef 10 he_23 up_h
                                  clear he_23 s10_22 s2_22 s3_22 s4_22 s8_22 s9_22
                                  refine then_n ?_
                                  refine ⟨⟨_, _, _⟩, ⟨s10_23, s8_23, s9_23, (s2_23.trans s2_5.symm), (s3_23.trans s3_5.symm), (s4_23.trans s4_5.symm), (mo1_6.trans mo1_2.symm), (mo0_6.trans mo0_2.symm), ml_6, ?_⟩, ?_⟩
                                  · (first | exact ⟨by omega, by omega, ga_take ⟨h0.1, p1⟩ (by assumption) p3 p4 (by assumption) (by omega) (by assumption) (by first | exact .inl (by assumption) | exact .inr (by assumption))⟩ | exact ⟨by omega, by omega, ga_stay ⟨h0.1, p1⟩ p3 p4 (by first | exact .inl (by assumption) | exact .inr (.inl (by assumption)) | exact .inr (.inr (.inl (by assumption))) | exact .inr (.inr (.inr ⟨by assumption, by assumption⟩)))⟩)
                                  · ((try dsimp only); omega))
                             · (first | replace hq_21 := bnt hq_21 | replace hq_21 := bnf hq_21 | replace hq_21 := bt hq_21 | replace hq_21 := bf hq_21 | replace hq_21 := bt' hq_21 | replace hq_21 := bf' hq_21 | skip)
                               first
                               | (cases hq_21; done) | (exfalso; omega)
                               | (
                                  refine aw_skip ?_
                                  refine block_n ?_
                                  refine then_n ?_
                                  refine aw_text (by kernel_rfl) ?_
                                  refine al_ro' (ro_move s10_20) trivial rfl ?_
                                  first | (refine al_ro' (ro_add' up_h ev_c ?_) trivial rfl ?_; · (unfold In64; omega)) | refine al_ro' (ro_add up_h ev_c) trivial rfl ?_
                                  refine al_ro' (ro_assign up_h) trivial rfl ?_
                                  refine al_end (fun e_24 he_24 => ?_)
                                  have s2_24 := ef 2 he_24 (up_m rfl (u2 rfl s2_20))
                                  have s3_24 := ef 3 he_24 (up_m rfl (u2 rfl s3_20))
                                  have s4_24 := ef 4 he_24 (up_m rfl (u2 rfl s4_20))
                                  have s8_24 := ef 8 he_24 (up_m rfl (u2 rfl s8_20))
                                  have s9_24 := ef 9 he_24 (up_m rfl (u2 rfl s9_20))
                                  have s10_24 := ef 10 he_24 up_h
                                  clear he_24 s10_20 s11_20 s2_20 s3_20 s4_20 s53_20 s8_20 s9_20
                                  refine then_n ?_
                                  refine ⟨⟨_, _, _⟩, ⟨s10_24, s8_24, s9_24, (s2_24.trans s2_5.symm), (s3_24.trans s3_5.symm), (s4_24.trans s4_5.symm), (mo1_6.trans mo1_2.symm), (mo0_6.trans mo0_2.symm), ml_6, ?_⟩, ?_⟩
                                  · (first | exact ⟨by omega, by omega, ga_take ⟨h0.1, p1⟩ (by assumption) p3 p4 (by assumption) (by omega) (by assumption) (by first | exact .inl (by assumption) | exact .inr (by assumption))⟩ | exact ⟨by omega, by omega, ga_stay ⟨h0.1, p1⟩ p3 p4 (by first | exact .inl (by assumption) | exact .inr (.inl (by assumption)) | exact .inr (.inr (.inl (by assumption))) | exact .inr (.inr (.inr ⟨by assumption, by assumption⟩)))⟩)
                                  · ((try dsimp only); omega))))
                   · (first | replace hq_14 := bnt hq_14 | replace hq_14 := bnf hq_14 | replace hq_14 := bt hq_14 | replace hq_14 := bf hq_14 | replace hq_14 := bt' hq_14 | replace hq_14 := bf' hq_14 | skip)
                     first
                     | (cases hq_14; done) | (exfalso; omega)
                     | (
                        refine al_skip' ⟨_, rfl, .inl hb_14⟩ rfl ?_
                        refine al_skip' ⟨_, rfl, .inl (up_m rfl hb_14)⟩ rfl ?_
                        refine al_skip' ⟨_, rfl, .inl (u2 rfl hb_14)⟩ rfl ?_
                        refine al_skip' ⟨_, rfl, .inr up_h⟩ rfl ?_
                        refine al_skip' ⟨_, rfl, .inr (up_m rfl up_h)⟩ rfl ?_
                        refine al_skip' ⟨_, rfl, .inr (u2 rfl up_h)⟩ rfl ?_
                        refine al_skip' ⟨_, rfl, .inl (u2 rfl (u4 rfl hb_14))⟩ rfl ?_
                        refine al_ro' (ro_pickF (up_m rfl (u2 rfl (u4 rfl hb_14))) ev_c) trivial rfl ?_
                        refine al_end (fun e_25 he_25 => ?_)
                        have s2_25 := ef 2 he_25 (u4 rfl (u16 rfl s2_12))
                        have s3_25 := ef 3 he_25 (u4 rfl (u16 rfl s3_12))
                        have s4_25 := ef 4 he_25 (u4 rfl (u16 rfl s4_12))
                        have s8_25 := ef 8 he_25 (u4 rfl (u16 rfl s8_12))
                        have s9_25 := ef 9 he_25 (u4 rfl (u16 rfl s9_12))
                        have s10_25 := ef 10 he_25 (u4 rfl (u16 rfl s10_12))
                        have s11_25 := ef 11 he_25 (u4 rfl (u16 rfl s11_12))
                        have s53_25 := ef 53 he_25 up_h
                        clear he_25 hb_13 hb_14 s10_12 s11_12 s2_12 s3_12 s4_12 s8_12 s9_12
                        refine then_n ?_
                        refine aw_false s53_25 ?_
                        refine aw_skip ?_
                        refine block_n ?_
                        refine then_n ?_
                        refine aw_text (by kernel_rfl) ?_
                        refine al_ro' (ro_move s10_25) trivial rfl ?_
                        first | (refine al_ro' (ro_add' up_h ev_c ?_) trivial rfl ?_; · (unfold In64; omega)) | refine al_ro' (ro_add up_h ev_c) trivial rfl ?_
                        refine al_ro' (ro_assign up_h) trivial rfl ?_
                        refine al_end (fun e_27 he_27 => ?_)
                        have s2_27 := ef 2 he_27 (up_m rfl (u2 rfl s2_25))
                        have s3_27 := ef 3 he_27 (up_m rfl (u2 rfl s3_25))
                        have s4_27 := ef 4 he_27 (up_m rfl (u2 rfl s4_25))
                        have s8_27 := ef 8 he_27 (up_m rfl (u2 rfl s8_25))
                        have s9_27 := ef 9 he_27 (up_m rfl (u2 rfl s9_25))
                        have s10_27 := ef 10 he_27 up_h
                        clear he_27 s10_25 s11_25 s2_25 s3_25 s4_25 s53_25 s8_25 s9_25
                        refine then_n ?_
                        refine ⟨⟨_, _, _⟩, ⟨s10_27, s8_27, s9_27, (s2_27.trans s2_5.symm), (s3_27.trans s3_5.symm), (s4_27.trans s4_5.symm), (mo1_6.trans mo1_2.symm), (mo0_6.trans mo0_2.symm), ml_6, ?_⟩, ?_⟩
                        · (first | exact ⟨by omega, by omega, ga_take ⟨h0.1, p1⟩ (by assumption) p3 p4 (by assumption) (by omega) (by assumption) (by first | exact .inl (by assumption) | exact .inr (by assumption))⟩ | exact ⟨by omega, by omega, ga_stay ⟨h0.1, p1⟩ p3 p4 (by first | exact .inl (by assumption) | exact .inr (.inl (by assumption)) | exact .inr (.inr (.inl (by assumption))) | exact .inr (.inr (.inr ⟨by assumption, by assumption⟩)))⟩)
                        · ((try dsimp only); omega)))
              · (first | replace hq_13 := bnt hq_13 | replace hq_13 := bnf hq_13 | replace hq_13 := bt hq_13 | replace hq_13 := bf hq_13 | replace hq_13 := bt' hq_13 | replace hq_13 := bf' hq_13 | skip)
                first
                | (cases hq_13; done) | (exfalso; omega)
                | (
                   refine al_skip' ⟨_, rfl, .inl hb_13⟩ rfl ?_
                   refine al_skip' ⟨_, rfl, .inl (up_m rfl hb_13)⟩ rfl ?_
                   refine al_skip' ⟨_, rfl, .inl (u2 rfl hb_13)⟩ rfl ?_
                   refine al_skip' ⟨_, rfl, .inl (up_m rfl (u2 rfl hb_13))⟩ rfl ?_
                   refine al_skip' ⟨_, rfl, .inl (u4 rfl hb_13)⟩ rfl ?_
                   refine al_skip' ⟨_, rfl, .inl (up_m rfl (u4 rfl hb_13))⟩ rfl ?_
                   refine al_skip' ⟨_, rfl, .inl (u2 rfl (u4 rfl hb_13))⟩ rfl ?_
                   refine al_ro' (ro_pickF (up_m rfl (u2 rfl (u4 rfl hb_13))) ev_c) trivial rfl ?_
                   refine al_ro' (ro_move up_h) trivial rfl ?_
                   refine al_skip' ⟨_, rfl, .inl up_h⟩ rfl ?_
                   refine al_skip' ⟨_, rfl, .inl (up_m rfl up_h)⟩ rfl ?_
                   refine al_skip' ⟨_, rfl, .inl (u2 rfl up_h)⟩ rfl ?_
                   refine al_skip' ⟨_, rfl, .inr up_h⟩ rfl ?_
                   refine al_skip' ⟨_, rfl, .inr (up_m rfl up_h)⟩ rfl ?_
                   refine al_skip' ⟨_, rfl, .inr (u2 rfl up_h)⟩ rfl ?_
                   refine al_skip' ⟨_, rfl, .inl (u2 rfl (u4 rfl up_h))⟩ rfl ?_
                   refine al_ro' (ro_pickF (up_m rfl (u2 rfl (u4 rfl up_h))) ev_c) trivial rfl ?_
                   refine al_end (fun e_28 he_28 => ?_)
                   have s2_28 := ef 2 he_28 (u4 rfl (u16 rfl s2_12))
                   have s3_28 := ef 3 he_28 (u4 rfl (u16 rfl s3_12))
                   have s4_28 := ef 4 he_28 (u4 rfl (u16 rfl s4_12))
                   have s8_28 := ef 8 he_28 (u4 rfl (u16 rfl s8_12))
                   have s9_28 := ef 9 he_28 (u4 rfl (u16 rfl s9_12))
                   have s10_28 := ef 10 he_28 (u4 rfl (u16 rfl s10_12))
                   have s11_28 := ef 11 he_28 (u4 rfl (u16 rfl s11_12))
                   have s53_28 := ef 53 he_28 up_h
                   clear he_28 hb_13 s10_12 s11_12 s2_12 s3_12 s4_12 s8_12 s9_12
                   refine then_n ?_
                   refine aw_false s53_28 ?_
                   refine aw_skip ?_
                   refine block_n ?_
                   refine then_n ?_
                   refine aw_text (by kernel_rfl) ?_
                   refine al_ro' (ro_move s10_28) trivial rfl ?_
                   first | (refine al_ro' (ro_add' up_h ev_c ?_) trivial rfl ?_; · (unfold In64; omega)) | refine al_ro' (ro_add up_h ev_c) trivial rfl ?_
                   refine al_ro' (ro_assign up_h) trivial rfl ?_
                   refine al_end (fun e_30 he_30 => ?_)
                   have s2_30 := ef 2 he_30 (up_m rfl (u2 rfl s2_28))
                   have s3_30 := ef 3 he_30 (up_m rfl (u2 rfl s3_28))
                   have s4_30 := ef 4 he_30 (up_m rfl (u2 rfl s4_28))
                   have s8_30 := ef 8 he_30 (up_m rfl (u2 rfl s8_28))
                   have s9_30 := ef 9 he_30 (up_m rfl (u2 rfl s9_28))
                   have s10_30 := ef 10 he_30 up_h
                   clear he_30 s10_28 s11_28 s2_28 s3_28 s4_28 s53_28 s8_28 s9_28
                   refine then_n ?_
                   refine ⟨⟨_, _, _⟩, ⟨s10_30, s8_30, s9_30, (s2_30.trans s2_5.symm), (s3_30.trans s3_5.symm), (s4_30.trans s4_5.symm), (mo1_6.trans mo1_2.symm), (mo0_6.trans mo0_2.symm), ml_6, ?_⟩, ?_⟩
                   · (first | exact ⟨by omega, by omega, ga_take ⟨h0.1, p1⟩ (by assumption) p3 p4 (by assumption) (by omega) (by assumption) (by first | exact .inl (by assumption) | exact .inr (by assumption))⟩ | exact ⟨by omega, by omega, ga_stay ⟨h0.1, p1⟩ p3 p4 (by first | exact .inl (by assumption) | exact .inr (.inl (by assumption)) | exact .inr (.inr (.inl (by assumption))) | exact .inr (.inr (.inr ⟨by assumption, by assumption⟩)))⟩)
                   · ((try dsimp only); omega))))
    · (first | replace hq_8 := bnt hq_8 | replace hq_8 := bnf hq_8 | replace hq_8 := bt hq_8 | replace hq_8 := bf hq_8 | replace hq_8 := bt' hq_8 | replace hq_8 := bf' hq_8 | skip)
      first
      | (cases hq_8; done) | (exfalso; omega)
      | (
         refine aw_exit ?_
         refine then_x ?_
         refine then_x ?_
         refine block_hit ?_
         refine then_n ?_
         refine aw_seq ?_
         refine aw_text (by kernel_rfl) ?_
         refine al_ro' (ro_move s8_7) trivial rfl ?_
         refine al_ro' (ro_move (up_m rfl s9_7)) trivial rfl ?_
         refine al_ro' (ro_assign (up_m rfl up_h)) trivial rfl ?_
         refine al_ro' (ro_assign (up_m rfl up_h)) trivial rfl ?_
         refine al_end (fun e_31 he_31 => ?_)
         have s6_31 := ef 6 he_31 (up_m rfl up_h)
         have s7_31 := ef 7 he_31 up_h
         clear he_31 s10_7 s17_7 s2_7 s3_7 s4_7 s8_7 s9_7
         refine then_n ?_
         refine aw_ret ?_
         refine ret2 (.inr rfl) (by kernel_rfl) (resV_tmp s6_31) (resV_tmp s7_31) (.ro _ rfl) (.ro _ rfl) ?_
         clear s6_31 s7_31 mo1_6 mo0_6 ml_6
         (rw [show k = ps.length by omega] at p3; obtain ⟨p5, p6⟩ := p3; rw [stP_all] at p5 p6; rw [p5, p6]; rfl))
theorem fold_ge {ps : List Piece} {b d post : Int} : ∀ (l : List Nat) (m : Int), m ≤ l.foldl (gaS ps b d post) m
  | [], m => Int.le_refl _
  | s :: l, m => by
    have := fold_ge (ps := ps) (b := b) (d := d) (post := post) l (gaS ps b d post m s)
    have h : m ≤ gaS ps b d post m s := by unfold gaS; split <;> omega
    show m ≤ l.foldl (gaS ps b d post) (gaS ps b d post m s)
    omega
theorem fold_mem {ps : List Piece} {b d post : Int} {s : Nat} (hr : (runW ps b d (s : Int) post (tpA ps b post s)).2 = 0) : ∀ (l : List Nat) (m : Int), s ∈ l → tpA ps b post s ≤ l.foldl (gaS ps b d post) m
  | t :: l, m, h => by
    show tpA ps b post s ≤ l.foldl (gaS ps b d post) (gaS ps b d post m t)
    rcases List.mem_cons.1 h with rfl | h
    · have := fold_ge (ps := ps) (b := b) (d := d) (post := post) l (gaS ps b d post m s)
      have h2 : tpA ps b post s ≤ gaS ps b d post m s := by unfold gaS; rw [if_pos hr]; omega
      omega
    · exact fold_mem hr l _ h
theorem fold_of {ps : List Piece} {b d post : Int} : ∀ (l : List Nat) (m : Int), l.foldl (gaS ps b d post) m = m ∨ ∃ s ∈ l, (runW ps b d (s : Int) post (tpA ps b post s)).2 = 0 ∧ l.foldl (gaS ps b d post) m = tpA ps b post s
  | [], m => .inl rfl
  | t :: l, m => by
    show l.foldl (gaS ps b d post) (gaS ps b d post m t) = m ∨ _
    rcases fold_of l (gaS ps b d post m t) with h | ⟨s, h1, h2, h3⟩
    · by_cases hr : (runW ps b d (t : Int) post (tpA ps b post t)).2 = 0
      · by_cases hm : m ≤ tpA ps b post t
        · refine .inr ⟨t, by simp, hr, ?_⟩
          show l.foldl (gaS ps b d post) (gaS ps b d post m t) = _
          rw [h]; unfold gaS; rw [if_pos hr]; omega
        · left
          rw [h]; unfold gaS; rw [if_pos hr]; omega
      · left
        rw [h]; unfold gaS; rw [if_neg hr]
    · exact .inr ⟨s, by simp [h1], h2, h3⟩
theorem stL_mem {ps : List Piece} {post : Int} {s : Nat} (h : s ∈ stL ps post) : post ≤ s ∧ s < ps.length := by
  unfold stL stB at h
  rw [List.mem_filter] at h
  simp at h
  exact ⟨h.2.1, h.1⟩
theorem rcW_mem {ps : List Piece} {b d post sq : Int} (h : 0 < (rcW ps b d post sq).length) : ∃ s ∈ stL ps post, (runW ps b d (s : Int) post sq).2 = 0 := by
  unfold rcW rcP at h
  rw [List.length_map, List.length_pos_iff_exists_mem] at h
  obtain ⟨s, hs⟩ := h
  rw [List.mem_filter] at hs
  exact ⟨s, hs.1, by simpa using hs.2⟩
theorem rcW_pos {ps : List Piece} {b d post sq : Int} {s : Nat} (h : s ∈ stL ps post) (hr : (runW ps b d (s : Int) post sq).2 = 0) : 0 < (rcW ps b d post sq).length := by
  unfold rcW rcP
  rw [List.length_map, List.length_pos_iff_exists_mem]
  exact ⟨s, List.mem_filter.2 ⟨h, by simpa using hr⟩⟩
/-- Who reaches a stop, reaches it from the curve as well. -/
theorem run_top {ps : List Piece} {b d post sq : Int} {s : Nat} (h0 : 0 ≤ post) (h1 : post ≤ s) (hsq : 0 ≤ sq) (hr : (runW ps b d (s : Int) post sq).2 = 0) : (runW ps b d (s : Int) post (tpA ps b post s)).2 = 0 ∧ sq ≤ tpA ps b post s := by
  obtain ⟨⟨a1, a2⟩, a3⟩ := (two_ways h0 h1 hsq).1 hr
  have e : tpA ps b post s = cuA ps b (s : Int) post.toNat := rfl
  rw [e]
  exact ⟨(two_ways h0 h1 (by omega)).2 ⟨⟨by omega, Int.le_refl _⟩, a3⟩, a2⟩
theorem stops_great {ps : List Piece} {b d post sq : Int} (h0 : 0 ≤ post) (hsq : 0 ≤ sq) : (rcW ps b d post sq).length = 0 ∨ (gaW ps b d post ≠ -1 ∧ sq ≤ gaW ps b d post) := by
  by_cases h : (rcW ps b d post sq).length = 0
  · exact .inl h
  · obtain ⟨s, h1, h2⟩ := rcW_mem (by omega : 0 < (rcW ps b d post sq).length)
    have h3 := stL_mem h1
    have h4 := run_top h0 h3.1 hsq h2
    have h5 : tpA ps b post s ≤ gaW ps b d post := fold_mem h4.1 _ _ h1
    exact .inr ⟨by omega, by omega⟩
theorem great_stops {ps : List Piece} {b d post : Int} (hok : trackR ps) (h0 : 0 ≤ post) : gaW ps b d post = -1 ∨ (0 ≤ gaW ps b d post ∧ gaW ps b d post ≤ 20000000000 ∧ 0 < (rcW ps b d post (gaW ps b d post)).length) := by
  rcases fold_of (ps := ps) (b := b) (d := d) (post := post) (stL ps post) (-1) with h | ⟨s, h1, h2, h3⟩
  · exact .inl h
  · have h3' : gaW ps b d post = tpA ps b post s := h3
    have h4 := stL_mem h1
    have h5 := tpA_bound hok b post s h4.2 ⟨h0, h4.1⟩
    have h6 : tpA ps b post s ≠ -1 := fun hc => by
      have := run_none (ps := ps) (b := b) (d := d) (stop := (s : Int)) (post := post) (sq := tpA ps b post s) hc
      rw [this] at h2; cases h2
    refine .inr ⟨by omega, by omega, ?_⟩
    rw [h3']; exact rcW_pos h1 h2
theorem stE_d (nm : ByteArray) (ps : List Piece) (b d v post sq : Int) : stE nm ps b d v post sq = if firstE [(chk nm ps).2, sysE b d v] = 0 then stateE ps post sq else firstE [(chk nm ps).2, sysE b d v] := firstE_two _ _
theorem gaE_d (nm : ByteArray) (ps : List Piece) (b d v post : Int) : gaE nm ps b d v post = if firstE [(chk nm ps).2, sysE b d v] = 0 then unlessE (withinB post 0 ps.length) 6 else firstE [(chk nm ps).2, sysE b d v] := firstE_two _ _
theorem stateE_out {ps : List Piece} {post sq : Int} (h : withinB post 0 ps.length = false) : stateE ps post sq = 6 := by
  unfold stateE unlessE firstE
  rw [h]; rfl
theorem stateE_in {ps : List Piece} {post sq : Int} (h : withinB post 0 ps.length = true) (h2 : 0 ≤ sq ∧ sq ≤ 20000000000) : stateE ps post sq = 0 := by
  have h3 : withinB sq 0 20000000000 = true := by simpa [withinB] using h2
  unfold stateE
  rw [h, h3]; rfl
/-- What StopsOf and GreatestAt answer. -/
def soL (nm : ByteArray) (ps : List Piece) (b d v post sq : Int) : List Int := if stE nm ps b d v post sq = 0 then rcW ps b d post sq else []
def gnN (nm : ByteArray) (ps : List Piece) (b d v post : Int) : Int := if gaE nm ps b d v post = 0 then (if gaW ps b d post = -1 then 0 else gaW ps b d post) else 0
def gnE (nm : ByteArray) (ps : List Piece) (b d v post : Int) : Int := if gaE nm ps b d v post = 0 then (if gaW ps b d post = -1 then 12 else 0) else gaE nm ps b d v post
theorem so_bad {nm : ByteArray} {ps : List Piece} {b d v post sq : Int} (h : stE nm ps b d v post sq ≠ 0) : (soL nm ps b d v post sq).length = 0 := by unfold soL; rw [if_neg h]; rfl
theorem gn_bad {nm : ByteArray} {ps : List Piece} {b d v post : Int} (h : gaE nm ps b d v post ≠ 0) : gnN nm ps b d v post = 0 ∧ gnE nm ps b d v post = gaE nm ps b d v post := by unfold gnN gnE; rw [if_neg h, if_neg h]; exact ⟨rfl, rfl⟩
theorem gn_good {nm : ByteArray} {ps : List Piece} {b d v post : Int} (h : gaE nm ps b d v post = 0) : (gaW ps b d post = -1 ∧ gnN nm ps b d v post = 0 ∧ gnE nm ps b d v post = 12) ∨ (gaW ps b d post ≠ -1 ∧ gnN nm ps b d v post = gaW ps b d post ∧ gnE nm ps b d v post = 0) := by
  unfold gnN gnE
  rw [if_pos h, if_pos h]
  by_cases hg : gaW ps b d post = -1
  · exact .inl ⟨hg, by rw [if_pos hg], by rw [if_pos hg]⟩
  · exact .inr ⟨hg, by rw [if_neg hg], by rw [if_neg hg]⟩
theorem stops1_ok (nm : ByteArray) (ps : List Piece) (hs : nm.size ≤ 1000000000) (hp : ps.length ≤ 1000000000) (b d v post sq : Int) : FnOk Try.prog 43 [trA nm ps, syA b d v, .agg [iA post, iA sq]] (fun q => q = .tuple [.row 1 ((soL nm ps b d v post sq).map iE), iA (stE nm ps b d v post sq)]) := stopsOf_ok nm ps hs hp b d v post sq
theorem great1_ok (nm : ByteArray) (ps : List Piece) (hs : nm.size ≤ 1000000000) (hp : ps.length ≤ 1000000000) (b d v post : Int) : FnOk Try.prog 44 [trA nm ps, syA b d v, iA post] (fun q => q = .tuple [iA (gnN nm ps b d v post), iA (gnE nm ps b d v post)]) := greatestAt_ok nm ps hs hp b d v post
theorem stops2_ok {nm : ByteArray} {ps : List Piece} (hs : nm.size ≤ 1000000000) (hp : ps.length ≤ 1000000000) {b d v post sq : Int} (h : stE nm ps b d v post sq = 0) : FnOk Try.prog 43 [trA nm ps, syA b d v, .agg [iA post, iA sq]] (fun q => q = .tuple [.row 1 ((rcW ps b d post sq).map iE), iA 0]) :=
  (stopsOf_ok nm ps hs hp b d v post sq).mono fun q hq => by rw [hq, if_pos h, h]
set_option maxRecDepth 100000 in
set_option maxHeartbeats 4000000 in
theorem brakeStops_ok (nm : ByteArray) (ps : List Piece) (b d v : Int) (post sq : Int) : FnOk Try.prog 11 [trA nm ps, syA b d v, .agg [iA post, iA sq]] (fun q => q = bA true) := by
  refine fnOk_of (fn := Try.f11) 171 (by kernel_rfl) rfl (by kernel_rfl) (Nat.le_of_ble_eq_true rfl) ?_
  intro e_0 m_0 hA hm_0
  have s0_0 : evA e_0 (.tmp 0) = _ := hA 0 _ rfl
  have s1_0 : evA e_0 (.tmp 1) = _ := hA 1 _ rfl
  have s2_0 : evA e_0 (.tmp 2) = _ := hA 2 _ rfl
  have ml_0 : m_0.length = 0 := by rw [hm_0]; rfl
  clear hA hm_0
  refine aw_seq ?_
  refine aw_text (by kernel_rfl) ?_
  refine al_stm (st_box s0_0 rfl ml_0) trivial rfl (fun m_1 hm_1 => ?_)
  have mo0_1 := m_push hm_1 ml_0
  (try simp only [packA_t, packA_f, iE, bE, setAt, cellsA, Value.cells, map_vc, map_vn, Nat.reduceAdd, qS] at mo0_1)
  have ml_1 := m_push_l hm_1 ml_0
  have ml_1 : _ = 1 := ml_1
  clear hm_1
  refine al_stm (st_box (up_m rfl s1_0) rfl ml_1) trivial rfl (fun m_2 hm_2 => ?_)
  have mo1_2 := m_push hm_2 ml_1
  (try simp only [packA_t, packA_f, iE, bE, setAt, cellsA, Value.cells, map_vc, map_vn, Nat.reduceAdd, qS] at mo1_2)
  have mo0_2 := m_push_o hm_2 mo0_1
  have ml_2 := m_push_l hm_2 ml_1
  have ml_2 : _ = 2 := ml_2
  clear hm_2 mo0_1
  refine al_stm (st_box (u2 rfl s2_0) rfl ml_2) trivial rfl (fun m_3 hm_3 => ?_)
  have mo2_3 := m_push hm_3 ml_2
  (try simp only [packA_t, packA_f, iE, bE, setAt, cellsA, Value.cells, map_vc, map_vn, Nat.reduceAdd, qS] at mo2_3)
  have mo1_3 := m_push_o hm_3 mo1_2
  have mo0_3 := m_push_o hm_3 mo0_2
  have ml_3 := m_push_l hm_3 ml_2
  have ml_3 : _ = 3 := ml_3
  clear hm_3 mo1_2 mo0_2
  refine al_ro' (ro_assign ev_c) trivial rfl ?_
  refine al_end (fun e_4 he_4 => ?_)
  have s3_4 := ef 3 he_4 (up_m rfl (u2 rfl up_h))
  have s4_4 := ef 4 he_4 (u2 rfl up_h)
  have s5_4 := ef 5 he_4 (up_m rfl up_h)
  clear he_4 s0_0 s1_0 s2_0
  refine then_n ?_
  refine aw_seq ?_
  refine aw_seq ?_
  refine aw_text (by kernel_rfl) ?_
  refine al_ro' (ro_call evL_nil rfl (awake_ok) k37_hcf15) trivial rfl ?_
  refine al_ro' (ro_not up_h) trivial rfl ?_
  refine al_end (fun e_5 he_5 => ?_)
  have s3_5 := ef 3 he_5 (u2 rfl s3_4)
  have s4_5 := ef 4 he_5 (u2 rfl s4_4)
  have s5_5 := ef 5 he_5 (u2 rfl s5_4)
  have s18_5 := ef 18 he_5 up_h
  clear he_5 s3_4 s4_4 s5_4
  refine then_n ?_
  refine aw_case s18_5 (fun hq_6 => ?_) (fun hq_6 => ?_)
  · (first | replace hq_6 := bnt hq_6 | replace hq_6 := bnf hq_6 | replace hq_6 := bt hq_6 | replace hq_6 := bf hq_6 | replace hq_6 := bt' hq_6 | replace hq_6 := bf' hq_6 | skip)
    first
    | (cases hq_6; done) | (exfalso; omega)
    | (
       refine aw_seq ?_
       refine aw_text (by kernel_rfl) ?_
       refine al_ro' (ro_assign ev_c) trivial rfl ?_
       refine al_end (fun e_7 he_7 => ?_)
       have s6_7 := ef 6 he_7 up_h
       clear he_7 s18_5 s3_5 s4_5 s5_5
       refine then_n ?_
       refine aw_ret ?_
       refine then_r ?_
       refine ret1 (.inr rfl) (by kernel_rfl) (resV_tmp s6_7) (.ro _ rfl) ?_
       clear s6_7 mo2_3 mo1_3 mo0_3 ml_3
       (first | rfl | (refine avb ?_; simp only [decide_eq_true_eq, Bool.false_eq_true, true_iff, false_iff, iff_false, iff_true]; omega) | (simp; omega)))
  · (first | replace hq_6 := bnt hq_6 | replace hq_6 := bnf hq_6 | replace hq_6 := bt hq_6 | replace hq_6 := bf hq_6 | replace hq_6 := bt' hq_6 | replace hq_6 := bf' hq_6 | skip)
    first
    | (cases hq_6; done) | (exfalso; omega)
    | (
       refine aw_skip ?_
       refine then_n ?_
       refine aw_seq ?_
       refine aw_seq ?_
       refine aw_text (by kernel_rfl) ?_
       refine al_ro' (ro_eq (ro_ld_ptr k37_ty24 rfl mo0_3 s3_5 (by first | exact Nat.le_of_ble_eq_true rfl | omega | (simp only [lnS] <;> omega) | (simp <;> omega))) (by first | (simp only [packA_t, packA_f, iE, bE, setAt, cellsA, Value.cells, map_vc, map_vn, Nat.reduceAdd, qS] <;> rfl) | rfl)) trivial rfl ?_
       refine al_ro' (ro_call (evL_cons up_h evL_nil) rfl (short_ok nm ps) k37_hcf16) trivial rfl ?_
       refine al_ro' (ro_not up_h) trivial rfl ?_
       refine al_end (fun e_8 he_8 => ?_)
       have s3_8 := ef 3 he_8 (up_m rfl (u2 rfl s3_5))
       have s4_8 := ef 4 he_8 (up_m rfl (u2 rfl s4_5))
       have s5_8 := ef 5 he_8 (up_m rfl (u2 rfl s5_5))
       have s21_8 := ef 21 he_8 up_h
       clear he_8 s18_5 s3_5 s4_5 s5_5
       refine then_n ?_
       refine aw_case s21_8 (fun hq_9 => ?_) (fun hq_9 => ?_)
       · (first | replace hq_9 := bnt hq_9 | replace hq_9 := bnf hq_9 | replace hq_9 := bt hq_9 | replace hq_9 := bf hq_9 | replace hq_9 := bt' hq_9 | replace hq_9 := bf' hq_9 | skip)
         first
         | (cases hq_9; done) | (exfalso; omega)
         | (
            refine aw_seq ?_
            refine aw_text (by kernel_rfl) ?_
            refine al_ro' (ro_assign ev_c) trivial rfl ?_
            refine al_end (fun e_10 he_10 => ?_)
            have s6_10 := ef 6 he_10 up_h
            clear he_10 s21_8 s3_8 s4_8 s5_8
            refine then_n ?_
            refine aw_ret ?_
            refine then_r ?_
            refine ret1 (.inr rfl) (by kernel_rfl) (resV_tmp s6_10) (.ro _ rfl) ?_
            clear s6_10 mo2_3 mo1_3 mo0_3 ml_3
            (first | rfl | (refine avb ?_; simp only [decide_eq_true_eq, Bool.false_eq_true, true_iff, false_iff, iff_false, iff_true]; omega) | (simp; omega)))
       · (first | replace hq_9 := bnt hq_9 | replace hq_9 := bnf hq_9 | replace hq_9 := bt hq_9 | replace hq_9 := bf hq_9 | replace hq_9 := bt' hq_9 | replace hq_9 := bf' hq_9 | skip)
         first
         | (cases hq_9; done) | (exfalso; omega)
         | (
            refine aw_skip ?_
            refine then_n ?_
            refine aw_seq ?_
            refine aw_draw 10 (by kernel_rfl) (by kernel_rfl) (by kernel_rfl) (by kernel_rfl) ?_
            refine ds_ro' (ro_eq (ro_ld_ptr k37_ty24 rfl mo0_3 s3_8 (by first | exact Nat.le_of_ble_eq_true rfl | omega | (simp only [lnS] <;> omega) | (simp <;> omega))) (by first | (simp only [packA_t, packA_f, iE, bE, setAt, cellsA, Value.cells, map_vc, map_vn, Nat.reduceAdd, qS] <;> rfl) | rfl)) trivial rfl ?_
            refine ds_ro' (ro_call (evL_cons up_h evL_nil) rfl (rCopy_ok nm ps (by omega)) k37_hcf18) trivial rfl ?_
            refine ds_ro' (ro_eq (ro_ld_ptr k37_ty26 rfl mo1_3 (u2 rfl s4_8) (by first | exact Nat.le_of_ble_eq_true rfl | omega | (simp only [lnS] <;> omega) | (simp <;> omega))) (by first | (simp only [packA_t, packA_f, iE, bE, setAt, cellsA, Value.cells, map_vc, map_vn, Nat.reduceAdd, qS] <;> rfl) | rfl)) trivial rfl ?_
            refine ds_ro' (ro_eq (ro_ld_ptr k37_ty42 rfl mo2_3 (up_m rfl (u2 rfl s5_8)) (by first | exact Nat.le_of_ble_eq_true rfl | omega | (simp only [lnS] <;> omega) | (simp <;> omega))) (by first | (simp only [packA_t, packA_f, iE, bE, setAt, cellsA, Value.cells, map_vc, map_vn, Nat.reduceAdd, qS] <;> rfl) | rfl)) trivial rfl ?_
            refine ds_ro' (ro_call (evL_cons (u2 rfl up_h) (evL_cons (up_m rfl up_h) (evL_cons up_h evL_nil))) rfl (stops1_ok nm ps (by omega) (by omega) b d v post sq) k37_hcf43) trivial rfl ?_
            refine ds_ro' (ro_move up_h) trivial rfl ?_
            refine ds_ro' (ro_extract up_h rfl) trivial rfl ?_
            refine ds_ro' (ro_extract (up_m rfl up_h) rfl) trivial rfl ?_
            refine ds_ro' (ro_assign (up_m rfl up_h)) trivial rfl ?_
            refine ds_ro' (ro_assign (up_m rfl up_h)) trivial rfl ?_
            refine ds_nil ?_
            refine al_end (fun e_11 he_11 => ?_)
            have s3_11 := ef 3 he_11 (u2 rfl (u8 rfl s3_8))
            have s4_11 := ef 4 he_11 (u2 rfl (u8 rfl s4_8))
            have s5_11 := ef 5 he_11 (u2 rfl (u8 rfl s5_8))
            have s7_11 := ef 7 he_11 (up_m rfl up_h)
            have s8_11 := ef 8 he_11 up_h
            clear he_11 s21_8 s3_8 s4_8 s5_8
            refine then_n ?_
            refine aw_seq ?_
            refine aw_draw 11 (by kernel_rfl) (by kernel_rfl) (by kernel_rfl) (by kernel_rfl) ?_
            refine ds_ro' (ro_eq (ro_ld_ptr k37_ty24 rfl mo0_3 s3_11 (by first | exact Nat.le_of_ble_eq_true rfl | omega | (simp only [lnS] <;> omega) | (simp <;> omega))) (by first | (simp only [packA_t, packA_f, iE, bE, setAt, cellsA, Value.cells, map_vc, map_vn, Nat.reduceAdd, qS] <;> rfl) | rfl)) trivial rfl ?_
            refine ds_ro' (ro_call (evL_cons up_h evL_nil) rfl (rCopy_ok nm ps (by omega)) k37_hcf18) trivial rfl ?_
            refine ds_ro' (ro_eq (ro_ld_ptr k37_ty26 rfl mo1_3 (u2 rfl s4_11) (by first | exact Nat.le_of_ble_eq_true rfl | omega | (simp only [lnS] <;> omega) | (simp <;> omega))) (by first | (simp only [packA_t, packA_f, iE, bE, setAt, cellsA, Value.cells, map_vc, map_vn, Nat.reduceAdd, qS] <;> rfl) | rfl)) trivial rfl ?_
            refine ds_ro' (ro_fld_ptr k37_fl42_0 rfl (up_m rfl (u2 rfl s5_11))) trivial rfl ?_
            refine ds_ro' (ro_eq (ro_ld_ptr k37_ty3 rfl mo2_3 up_h (by first | exact Nat.le_of_ble_eq_true rfl | omega | (simp only [lnS] <;> omega) | (simp <;> omega))) (by first | (simp only [packA_t, packA_f, iE, bE, setAt, cellsA, Value.cells, map_vc, map_vn, Nat.reduceAdd, qS] <;> rfl) | rfl)) trivial rfl ?_
            refine ds_ro' (ro_call (evL_cons (up_m rfl (u2 rfl up_h)) (evL_cons (u2 rfl up_h) (evL_cons up_h evL_nil))) rfl (great1_ok nm ps (by omega) (by omega) b d v post) k37_hcf44) trivial rfl ?_
            refine ds_ro' (ro_move up_h) trivial rfl ?_
            refine ds_ro' (ro_extract up_h rfl) trivial rfl ?_
            refine ds_ro' (ro_extract (up_m rfl up_h) rfl) trivial rfl ?_
            refine ds_ro' (ro_assign (up_m rfl up_h)) trivial rfl ?_
            refine ds_ro' (ro_assign (up_m rfl up_h)) trivial rfl ?_
            refine ds_nil ?_
            refine al_end (fun e_12 he_12 => ?_)
            have s3_12 := ef 3 he_12 (up_m rfl (u2 rfl (u8 rfl s3_11)))
            have s4_12 := ef 4 he_12 (up_m rfl (u2 rfl (u8 rfl s4_11)))
            have s5_12 := ef 5 he_12 (up_m rfl (u2 rfl (u8 rfl s5_11)))
            have s7_12 := ef 7 he_12 (up_m rfl (u2 rfl (u8 rfl s7_11)))
            have s8_12 := ef 8 he_12 (up_m rfl (u2 rfl (u8 rfl s8_11)))
            have s9_12 := ef 9 he_12 (up_m rfl up_h)
            have s10_12 := ef 10 he_12 up_h
            clear he_12 s3_11 s4_11 s5_11 s7_11 s8_11
            refine then_n ?_
            refine aw_seq ?_
            refine aw_text (by kernel_rfl) ?_
            refine al_ro' (ro_eq (ro_ld_ptr k37_ty24 rfl mo0_3 s3_12 (by first | exact Nat.le_of_ble_eq_true rfl | omega | (simp only [lnS] <;> omega) | (simp <;> omega))) (by first | (simp only [packA_t, packA_f, iE, bE, setAt, cellsA, Value.cells, map_vc, map_vn, Nat.reduceAdd, qS] <;> rfl) | rfl)) trivial rfl ?_
            refine al_ro' (ro_eq (ro_ld_ptr k37_ty26 rfl mo1_3 (up_m rfl s4_12) (by first | exact Nat.le_of_ble_eq_true rfl | omega | (simp only [lnS] <;> omega) | (simp <;> omega))) (by first | (simp only [packA_t, packA_f, iE, bE, setAt, cellsA, Value.cells, map_vc, map_vn, Nat.reduceAdd, qS] <;> rfl) | rfl)) trivial rfl ?_
            refine al_ro' (ro_call (evL_cons (up_m rfl up_h) (evL_cons up_h evL_nil)) rfl (rBothErr_ok nm ps (by omega) (by omega) b d v) k37_hcf19) trivial rfl ?_
            refine al_ro' (ro_assign up_h) trivial rfl ?_
            refine al_end (fun e_13 he_13 => ?_)
            have s3_13 := ef 3 he_13 (u4 rfl s3_12)
            have s4_13 := ef 4 he_13 (u4 rfl s4_12)
            have s5_13 := ef 5 he_13 (u4 rfl s5_12)
            have s7_13 := ef 7 he_13 (u4 rfl s7_12)
            have s8_13 := ef 8 he_13 (u4 rfl s8_12)
            have s9_13 := ef 9 he_13 (u4 rfl s9_12)
            have s10_13 := ef 10 he_13 (u4 rfl s10_12)
            have s11_13 := ef 11 he_13 up_h
            clear he_13 s10_12 s3_12 s4_12 s5_12 s7_12 s8_12 s9_12
            refine then_n ?_
            refine aw_seq ?_
            refine aw_seq ?_
            refine aw_text (by kernel_rfl) ?_
            refine al_ro' (ro_move s11_13) trivial rfl ?_
            refine al_ro' (ro_neq up_h ev_c) trivial rfl ?_
            refine al_end (fun e_14 he_14 => ?_)
            have s3_14 := ef 3 he_14 (u2 rfl s3_13)
            have s4_14 := ef 4 he_14 (u2 rfl s4_13)
            have s5_14 := ef 5 he_14 (u2 rfl s5_13)
            have s7_14 := ef 7 he_14 (u2 rfl s7_13)
            have s8_14 := ef 8 he_14 (u2 rfl s8_13)
            have s9_14 := ef 9 he_14 (u2 rfl s9_13)
            have s10_14 := ef 10 he_14 (u2 rfl s10_13)
            have s11_14 := ef 11 he_14 (u2 rfl s11_13)
            have s43_14 := ef 43 he_14 up_h
            clear he_14 s10_13 s11_13 s3_13 s4_13 s5_13 s7_13 s8_13 s9_13
            refine then_n ?_
            refine aw_case s43_14 (fun hq_15 => ?_) (fun hq_15 => ?_)
            · (first | replace hq_15 := bnt hq_15 | replace hq_15 := bnf hq_15 | replace hq_15 := bt hq_15 | replace hq_15 := bf hq_15 | replace hq_15 := bt' hq_15 | replace hq_15 := bf' hq_15 | skip)
              first
              | (cases hq_15; done) | (exfalso; omega)
              | (
                 (have e1 := stE_d nm ps b d v post sq; rw [if_neg (by assumption)] at e1; have e2 := gaE_d nm ps b d v post; rw [if_neg (by assumption)] at e2; have hsb := so_bad (nm := nm) (ps := ps) (b := b) (d := d) (v := v) (post := post) (sq := sq) (by omega); have hgb := gn_bad (nm := nm) (ps := ps) (b := b) (d := d) (v := v) (post := post) (by omega))
                 refine aw_seq ?_
                 refine aw_text (by kernel_rfl) ?_
                 refine al_ro' (ro_move s8_14) trivial rfl ?_
                 refine al_ro' (ro_move (up_m rfl s11_14)) trivial rfl ?_
                 refine al_ro' (ro_eql (up_m rfl up_h) up_h) trivial rfl ?_
                 refine al_ro' (ro_move up_h) trivial rfl ?_
                 refine al_case up_h (fun hb_16 hq_16 => ?_) (fun hb_16 hq_16 => ?_)
                 · (first | replace hq_16 := bnt hq_16 | replace hq_16 := bnf hq_16 | replace hq_16 := bt hq_16 | replace hq_16 := bf hq_16 | replace hq_16 := bt' hq_16 | replace hq_16 := bf' hq_16 | skip)
                   first
                   | (cases hq_16; done) | (exfalso; omega)
                   | (
                      refine al_ro' (ro_move (u4 rfl s10_14)) ⟨_, rfl, hb_16⟩ rfl ?_
                      refine al_ro' (ro_move (up_m rfl (u4 rfl s11_14))) ⟨_, rfl, (up_m rfl hb_16)⟩ rfl ?_
                      refine al_ro' (ro_eql (up_m rfl up_h) up_h) ⟨_, rfl, (u2 rfl hb_16)⟩ rfl ?_
                      refine al_ro' (ro_pickT (up_m rfl (u2 rfl hb_16)) up_h) trivial rfl ?_
                      refine al_ro' (ro_move up_h) trivial rfl ?_
                      refine al_case up_h (fun hb_17 hq_17 => ?_) (fun hb_17 hq_17 => ?_)
                      · (first | replace hq_17 := bnt hq_17 | replace hq_17 := bnf hq_17 | replace hq_17 := bt hq_17 | replace hq_17 := bf hq_17 | replace hq_17 := bt' hq_17 | replace hq_17 := bf' hq_17 | skip)
                        first
                        | (cases hq_17; done) | (exfalso; omega)
                        | (
                           refine al_ro' (ro_move (up_m rfl (u8 rfl s7_14))) ⟨_, rfl, hb_17⟩ rfl ?_
                           refine al_ro' (ro_eq (ro_len_row up_h rfl k37_sl30.1) (by first | (simp only [lnS] <;> rfl) | rfl)) ⟨_, rfl, (up_m rfl hb_17)⟩ rfl ?_
                           refine al_ro' (ro_eql up_h ev_c) ⟨_, rfl, (u2 rfl hb_17)⟩ rfl ?_
                           refine al_ro' (ro_pickT (up_m rfl (u2 rfl hb_17)) up_h) trivial rfl ?_
                           refine al_ro' (ro_move up_h) trivial rfl ?_
                           refine al_case up_h (fun hb_18 hq_18 => ?_) (fun hb_18 hq_18 => ?_)
                           · (first | replace hq_18 := bnt hq_18 | replace hq_18 := bnf hq_18 | replace hq_18 := bt hq_18 | replace hq_18 := bf hq_18 | replace hq_18 := bt' hq_18 | replace hq_18 := bf' hq_18 | skip)
                             first
                             | (cases hq_18; done) | (exfalso; omega)
                             | (
                                refine al_ro' (ro_move (u2 rfl (u4 rfl (u8 rfl s9_14)))) ⟨_, rfl, hb_18⟩ rfl ?_
                                refine al_ro' (ro_eql up_h ev_c) ⟨_, rfl, (up_m rfl hb_18)⟩ rfl ?_
                                refine al_ro' (ro_pickT (u2 rfl hb_18) up_h) trivial rfl ?_
                                refine al_ro' (ro_assign up_h) trivial rfl ?_
                                refine al_end (fun e_19 he_19 => ?_)
                                have s6_19 := ef 6 he_19 up_h
                                clear he_19 hb_16 hb_17 hb_18 s10_14 s11_14 s3_14 s43_14 s4_14 s5_14 s7_14 s8_14 s9_14
                                refine then_n ?_
                                refine aw_ret ?_
                                refine then_r ?_
                                refine ret1 (.inr rfl) (by kernel_rfl) (resV_tmp s6_19) (.ro _ rfl) ?_
                                clear s6_19 mo2_3 mo1_3 mo0_3 ml_3
                                (first | rfl | (refine avb ?_; simp only [decide_eq_true_eq, Bool.false_eq_true, true_iff, false_iff, iff_false, iff_true]; omega) | (simp; omega)))
                           · (first | replace hq_18 := bnt hq_18 | replace hq_18 := bnf hq_18 | replace hq_18 := bt hq_18 | replace hq_18 := bf hq_18 | replace hq_18 := bt' hq_18 | replace hq_18 := bf' hq_18 | skip)
                             first
                             | (cases hq_18; done) | (exfalso; omega)
                             | (
                                refine al_skip' ⟨_, rfl, .inl hb_18⟩ rfl ?_
                                refine al_skip' ⟨_, rfl, .inl (up_m rfl hb_18)⟩ rfl ?_
                                refine al_ro' (ro_pickF (u2 rfl hb_18) ev_c) trivial rfl ?_
                                refine al_ro' (ro_assign up_h) trivial rfl ?_
                                refine al_end (fun e_20 he_20 => ?_)
                                have s6_20 := ef 6 he_20 up_h
                                clear he_20 hb_16 hb_17 hb_18 s10_14 s11_14 s3_14 s43_14 s4_14 s5_14 s7_14 s8_14 s9_14
                                refine then_n ?_
                                refine aw_ret ?_
                                refine then_r ?_
                                refine ret1 (.inr rfl) (by kernel_rfl) (resV_tmp s6_20) (.ro _ rfl) ?_
                                clear s6_20 mo2_3 mo1_3 mo0_3 ml_3
                                (first | rfl | (refine avb ?_; simp only [decide_eq_true_eq, Bool.false_eq_true, true_iff, false_iff, iff_false, iff_true]; omega) | (simp; omega))))
                      · (first | replace hq_17 := bnt hq_17 | replace hq_17 := bnf hq_17 | replace hq_17 := bt hq_17 | replace hq_17 := bf hq_17 | replace hq_17 := bt' hq_17 | replace hq_17 := bf' hq_17 | skip)
                        first
                        | (cases hq_17; done) | (exfalso; omega)
                        | (
                           refine al_skip' ⟨_, rfl, .inl hb_17⟩ rfl ?_
                           refine al_skip' ⟨_, rfl, .inl (up_m rfl hb_17)⟩ rfl ?_
                           refine al_skip' ⟨_, rfl, .inl (u2 rfl hb_17)⟩ rfl ?_
                           refine al_ro' (ro_pickF (up_m rfl (u2 rfl hb_17)) ev_c) trivial rfl ?_
                           refine al_ro' (ro_move up_h) trivial rfl ?_
                           refine al_skip' ⟨_, rfl, .inl up_h⟩ rfl ?_
                           refine al_skip' ⟨_, rfl, .inl (up_m rfl up_h)⟩ rfl ?_
                           refine al_ro' (ro_pickF (u2 rfl up_h) ev_c) trivial rfl ?_
                           refine al_ro' (ro_assign up_h) trivial rfl ?_
                           refine al_end (fun e_21 he_21 => ?_)
                           have s6_21 := ef 6 he_21 up_h
                           clear he_21 hb_16 hb_17 s10_14 s11_14 s3_14 s43_14 s4_14 s5_14 s7_14 s8_14 s9_14
                           refine then_n ?_
                           refine aw_ret ?_
                           refine then_r ?_
                           refine ret1 (.inr rfl) (by kernel_rfl) (resV_tmp s6_21) (.ro _ rfl) ?_
                           clear s6_21 mo2_3 mo1_3 mo0_3 ml_3
                           (first | rfl | (refine avb ?_; simp only [decide_eq_true_eq, Bool.false_eq_true, true_iff, false_iff, iff_false, iff_true]; omega) | (simp; omega))))
                 · (first | replace hq_16 := bnt hq_16 | replace hq_16 := bnf hq_16 | replace hq_16 := bt hq_16 | replace hq_16 := bf hq_16 | replace hq_16 := bt' hq_16 | replace hq_16 := bf' hq_16 | skip)
                   first
                   | (cases hq_16; done) | (exfalso; omega)
                   | (
                      refine al_skip' ⟨_, rfl, .inl hb_16⟩ rfl ?_
                      refine al_skip' ⟨_, rfl, .inl (up_m rfl hb_16)⟩ rfl ?_
                      refine al_skip' ⟨_, rfl, .inl (u2 rfl hb_16)⟩ rfl ?_
                      refine al_ro' (ro_pickF (up_m rfl (u2 rfl hb_16)) ev_c) trivial rfl ?_
                      refine al_ro' (ro_move up_h) trivial rfl ?_
                      refine al_skip' ⟨_, rfl, .inl up_h⟩ rfl ?_
                      refine al_skip' ⟨_, rfl, .inl (up_m rfl up_h)⟩ rfl ?_
                      refine al_skip' ⟨_, rfl, .inl (u2 rfl up_h)⟩ rfl ?_
                      refine al_ro' (ro_pickF (up_m rfl (u2 rfl up_h)) ev_c) trivial rfl ?_
                      refine al_ro' (ro_move up_h) trivial rfl ?_
                      refine al_skip' ⟨_, rfl, .inl up_h⟩ rfl ?_
                      refine al_skip' ⟨_, rfl, .inl (up_m rfl up_h)⟩ rfl ?_
                      refine al_ro' (ro_pickF (u2 rfl up_h) ev_c) trivial rfl ?_
                      refine al_ro' (ro_assign up_h) trivial rfl ?_
                      refine al_end (fun e_22 he_22 => ?_)
                      have s6_22 := ef 6 he_22 up_h
                      clear he_22 hb_16 s10_14 s11_14 s3_14 s43_14 s4_14 s5_14 s7_14 s8_14 s9_14
                      refine then_n ?_
                      refine aw_ret ?_
                      refine then_r ?_
                      refine ret1 (.inr rfl) (by kernel_rfl) (resV_tmp s6_22) (.ro _ rfl) ?_
                      clear s6_22 mo2_3 mo1_3 mo0_3 ml_3
                      (first | rfl | (refine avb ?_; simp only [decide_eq_true_eq, Bool.false_eq_true, true_iff, false_iff, iff_false, iff_true]; omega) | (simp; omega))))
            · (first | replace hq_15 := bnt hq_15 | replace hq_15 := bnf hq_15 | replace hq_15 := bt hq_15 | replace hq_15 := bf hq_15 | replace hq_15 := bt' hq_15 | replace hq_15 := bf' hq_15 | skip)
              first
              | (cases hq_15; done) | (exfalso; omega)
              | (
                 (have hd0 : firstE [(chk nm ps).2, sysE b d v] = 0 := (by omega); have e1 := stE_d nm ps b d v post sq; rw [if_pos hd0] at e1; have e2 := gaE_d nm ps b d v post; rw [if_pos hd0] at e2; have hR : trackR ps ∧ sysR b d v := ⟨chk_right (firstE_cons hd0).1, sys_right (firstE_cons (firstE_cons hd0).2).1⟩)
                 refine aw_skip ?_
                 refine then_n ?_
                 refine aw_seq ?_
                 refine aw_seq ?_
                 refine aw_text (by kernel_rfl) ?_
                 refine al_ro' (ro_fld_ptr k37_fl42_0 rfl s5_14) trivial rfl ?_
                 refine al_ro' (ro_eq (ro_ld_ptr k37_ty3 rfl mo2_3 up_h (by first | exact Nat.le_of_ble_eq_true rfl | omega | (simp only [lnS] <;> omega) | (simp <;> omega))) (by first | (simp only [packA_t, packA_f, iE, bE, setAt, cellsA, Value.cells, map_vc, map_vn, Nat.reduceAdd, qS] <;> rfl) | rfl)) trivial rfl ?_
                 refine al_ro' (ro_fld_ptr k37_fl24_1 rfl (u2 rfl s3_14)) trivial rfl ?_
                 refine al_ro' (ro_eq (ro_ld_ptr k37_ty22 rfl mo0_3 up_h (by first | exact Nat.le_of_ble_eq_true rfl | omega | (simp only [lnS] <;> omega) | (simp <;> omega))) (by first | (simp only [packA_t, packA_f, iE, bE, setAt, cellsA, Value.cells, map_vc, map_vn, Nat.reduceAdd, qS] <;> rfl) | rfl)) trivial rfl ?_
                 refine al_ro' (ro_eq (ro_len_row up_h rfl k37_sl22.1) (by first | (simp only [lnS] <;> rfl) | rfl)) trivial rfl ?_
                 refine al_ro' (ro_call (evL_cons (up_m rfl (u2 rfl up_h)) (evL_cons ev_c (evL_cons up_h evL_nil))) rfl (bWithin_ok _ _ _) k37_hcf20) trivial rfl ?_
                 refine al_ro' (ro_not up_h) trivial rfl ?_
                 refine al_end (fun e_23 he_23 => ?_)
                 have s3_23 := ef 3 he_23 (up_m rfl (u2 rfl (u4 rfl s3_14)))
                 have s4_23 := ef 4 he_23 (up_m rfl (u2 rfl (u4 rfl s4_14)))
                 have s5_23 := ef 5 he_23 (up_m rfl (u2 rfl (u4 rfl s5_14)))
                 have s7_23 := ef 7 he_23 (up_m rfl (u2 rfl (u4 rfl s7_14)))
                 have s8_23 := ef 8 he_23 (up_m rfl (u2 rfl (u4 rfl s8_14)))
                 have s9_23 := ef 9 he_23 (up_m rfl (u2 rfl (u4 rfl s9_14)))
                 have s10_23 := ef 10 he_23 (up_m rfl (u2 rfl (u4 rfl s10_14)))
                 have s67_23 := ef 67 he_23 up_h
                 clear he_23 s10_14 s11_14 s3_14 s43_14 s4_14 s5_14 s7_14 s8_14 s9_14
                 refine then_n ?_
                 refine aw_case s67_23 (fun hq_24 => ?_) (fun hq_24 => ?_)
                 · (first | replace hq_24 := bnt hq_24 | replace hq_24 := bnf hq_24 | replace hq_24 := bt hq_24 | replace hq_24 := bf hq_24 | replace hq_24 := bt' hq_24 | replace hq_24 := bf' hq_24 | skip)
                   first
                   | (cases hq_24; done) | (exfalso; omega)
                   | (
                      (have hw : withinB post 0 ps.length = false := (by assumption); have e3 := stateE_out (ps := ps) (sq := sq) hw; rw [show unlessE (withinB post 0 ps.length) 6 = 6 by rw [hw]; rfl] at e2; have hsb := so_bad (nm := nm) (ps := ps) (b := b) (d := d) (v := v) (post := post) (sq := sq) (by omega); have hgb := gn_bad (nm := nm) (ps := ps) (b := b) (d := d) (v := v) (post := post) (by omega))
                      refine aw_seq ?_
                      refine aw_text (by kernel_rfl) ?_
                      refine al_ro' (ro_move s8_23) trivial rfl ?_
                      refine al_ro' (ro_eql up_h ev_c) trivial rfl ?_
                      refine al_ro' (ro_move up_h) trivial rfl ?_
                      refine al_case up_h (fun hb_25 hq_25 => ?_) (fun hb_25 hq_25 => ?_)
                      · (first | replace hq_25 := bnt hq_25 | replace hq_25 := bnf hq_25 | replace hq_25 := bt hq_25 | replace hq_25 := bf hq_25 | replace hq_25 := bt' hq_25 | replace hq_25 := bf' hq_25 | skip)
                        first
                        | (cases hq_25; done) | (exfalso; omega)
                        | (
                           refine al_ro' (ro_move (up_m rfl (u2 rfl s10_23))) ⟨_, rfl, hb_25⟩ rfl ?_
                           refine al_ro' (ro_eql up_h ev_c) ⟨_, rfl, (up_m rfl hb_25)⟩ rfl ?_
                           refine al_ro' (ro_pickT (u2 rfl hb_25) up_h) trivial rfl ?_
                           refine al_ro' (ro_move up_h) trivial rfl ?_
                           refine al_case up_h (fun hb_26 hq_26 => ?_) (fun hb_26 hq_26 => ?_)
                           · (first | replace hq_26 := bnt hq_26 | replace hq_26 := bnf hq_26 | replace hq_26 := bt hq_26 | replace hq_26 := bf hq_26 | replace hq_26 := bt' hq_26 | replace hq_26 := bf' hq_26 | skip)
                             first
                             | (cases hq_26; done) | (exfalso; omega)
                             | (
                                refine al_ro' (ro_move (up_m rfl (u2 rfl (u4 rfl s7_23)))) ⟨_, rfl, hb_26⟩ rfl ?_
                                refine al_ro' (ro_eq (ro_len_row up_h rfl k37_sl30.1) (by first | (simp only [lnS] <;> rfl) | rfl)) ⟨_, rfl, (up_m rfl hb_26)⟩ rfl ?_
                                refine al_ro' (ro_eql up_h ev_c) ⟨_, rfl, (u2 rfl hb_26)⟩ rfl ?_
                                refine al_ro' (ro_pickT (up_m rfl (u2 rfl hb_26)) up_h) trivial rfl ?_
                                refine al_ro' (ro_move up_h) trivial rfl ?_
                                refine al_case up_h (fun hb_27 hq_27 => ?_) (fun hb_27 hq_27 => ?_)
                                · (first | replace hq_27 := bnt hq_27 | replace hq_27 := bnf hq_27 | replace hq_27 := bt hq_27 | replace hq_27 := bf hq_27 | replace hq_27 := bt' hq_27 | replace hq_27 := bf' hq_27 | skip)
                                  first
                                  | (cases hq_27; done) | (exfalso; omega)
                                  | (
                                     refine al_ro' (ro_move (u4 rfl (u8 rfl s9_23))) ⟨_, rfl, hb_27⟩ rfl ?_
                                     refine al_ro' (ro_eql up_h ev_c) ⟨_, rfl, (up_m rfl hb_27)⟩ rfl ?_
                                     refine al_ro' (ro_pickT (u2 rfl hb_27) up_h) trivial rfl ?_
                                     refine al_ro' (ro_assign up_h) trivial rfl ?_
                                     refine al_end (fun e_28 he_28 => ?_)
                                     have s6_28 := ef 6 he_28 up_h
                                     clear he_28 hb_25 hb_26 hb_27 s10_23 s3_23 s4_23 s5_23 s67_23 s7_23 s8_23 s9_23
                                     refine then_n ?_
                                     refine aw_ret ?_
                                     refine then_r ?_
                                     refine ret1 (.inr rfl) (by kernel_rfl) (resV_tmp s6_28) (.ro _ rfl) ?_
                                     clear s6_28 mo2_3 mo1_3 mo0_3 ml_3
                                     (first | rfl | (refine avb ?_; simp only [decide_eq_true_eq, Bool.false_eq_true, true_iff, false_iff, iff_false, iff_true]; omega) | (simp; omega)))
                                · (first | replace hq_27 := bnt hq_27 | replace hq_27 := bnf hq_27 | replace hq_27 := bt hq_27 | replace hq_27 := bf hq_27 | replace hq_27 := bt' hq_27 | replace hq_27 := bf' hq_27 | skip)
                                  first
                                  | (cases hq_27; done) | (exfalso; omega)
                                  | (
                                     refine al_skip' ⟨_, rfl, .inl hb_27⟩ rfl ?_
                                     refine al_skip' ⟨_, rfl, .inl (up_m rfl hb_27)⟩ rfl ?_
                                     refine al_ro' (ro_pickF (u2 rfl hb_27) ev_c) trivial rfl ?_
                                     refine al_ro' (ro_assign up_h) trivial rfl ?_
                                     refine al_end (fun e_29 he_29 => ?_)
                                     have s6_29 := ef 6 he_29 up_h
                                     clear he_29 hb_25 hb_26 hb_27 s10_23 s3_23 s4_23 s5_23 s67_23 s7_23 s8_23 s9_23
                                     refine then_n ?_
                                     refine aw_ret ?_
                                     refine then_r ?_
                                     refine ret1 (.inr rfl) (by kernel_rfl) (resV_tmp s6_29) (.ro _ rfl) ?_
                                     clear s6_29 mo2_3 mo1_3 mo0_3 ml_3
                                     (first | rfl | (refine avb ?_; simp only [decide_eq_true_eq, Bool.false_eq_true, true_iff, false_iff, iff_false, iff_true]; omega) | (simp; omega))))
                           · (first | replace hq_26 := bnt hq_26 | replace hq_26 := bnf hq_26 | replace hq_26 := bt hq_26 | replace hq_26 := bf hq_26 | replace hq_26 := bt' hq_26 | replace hq_26 := bf' hq_26 | skip)
                             first
                             | (cases hq_26; done) | (exfalso; omega)
                             | (
                                refine al_skip' ⟨_, rfl, .inl hb_26⟩ rfl ?_
                                refine al_skip' ⟨_, rfl, .inl (up_m rfl hb_26)⟩ rfl ?_
                                refine al_skip' ⟨_, rfl, .inl (u2 rfl hb_26)⟩ rfl ?_
                                refine al_ro' (ro_pickF (up_m rfl (u2 rfl hb_26)) ev_c) trivial rfl ?_
                                refine al_ro' (ro_move up_h) trivial rfl ?_
                                refine al_skip' ⟨_, rfl, .inl up_h⟩ rfl ?_
                                refine al_skip' ⟨_, rfl, .inl (up_m rfl up_h)⟩ rfl ?_
                                refine al_ro' (ro_pickF (u2 rfl up_h) ev_c) trivial rfl ?_
                                refine al_ro' (ro_assign up_h) trivial rfl ?_
                                refine al_end (fun e_30 he_30 => ?_)
                                have s6_30 := ef 6 he_30 up_h
                                clear he_30 hb_25 hb_26 s10_23 s3_23 s4_23 s5_23 s67_23 s7_23 s8_23 s9_23
                                refine then_n ?_
                                refine aw_ret ?_
                                refine then_r ?_
                                refine ret1 (.inr rfl) (by kernel_rfl) (resV_tmp s6_30) (.ro _ rfl) ?_
                                clear s6_30 mo2_3 mo1_3 mo0_3 ml_3
                                (first | rfl | (refine avb ?_; simp only [decide_eq_true_eq, Bool.false_eq_true, true_iff, false_iff, iff_false, iff_true]; omega) | (simp; omega))))
                      · (first | replace hq_25 := bnt hq_25 | replace hq_25 := bnf hq_25 | replace hq_25 := bt hq_25 | replace hq_25 := bf hq_25 | replace hq_25 := bt' hq_25 | replace hq_25 := bf' hq_25 | skip)
                        first
                        | (cases hq_25; done) | (exfalso; omega)
                        | (
                           refine al_skip' ⟨_, rfl, .inl hb_25⟩ rfl ?_
                           refine al_skip' ⟨_, rfl, .inl (up_m rfl hb_25)⟩ rfl ?_
                           refine al_ro' (ro_pickF (u2 rfl hb_25) ev_c) trivial rfl ?_
                           refine al_ro' (ro_move up_h) trivial rfl ?_
                           refine al_skip' ⟨_, rfl, .inl up_h⟩ rfl ?_
                           refine al_skip' ⟨_, rfl, .inl (up_m rfl up_h)⟩ rfl ?_
                           refine al_skip' ⟨_, rfl, .inl (u2 rfl up_h)⟩ rfl ?_
                           refine al_ro' (ro_pickF (up_m rfl (u2 rfl up_h)) ev_c) trivial rfl ?_
                           refine al_ro' (ro_move up_h) trivial rfl ?_
                           refine al_skip' ⟨_, rfl, .inl up_h⟩ rfl ?_
                           refine al_skip' ⟨_, rfl, .inl (up_m rfl up_h)⟩ rfl ?_
                           refine al_ro' (ro_pickF (u2 rfl up_h) ev_c) trivial rfl ?_
                           refine al_ro' (ro_assign up_h) trivial rfl ?_
                           refine al_end (fun e_31 he_31 => ?_)
                           have s6_31 := ef 6 he_31 up_h
                           clear he_31 hb_25 s10_23 s3_23 s4_23 s5_23 s67_23 s7_23 s8_23 s9_23
                           refine then_n ?_
                           refine aw_ret ?_
                           refine then_r ?_
                           refine ret1 (.inr rfl) (by kernel_rfl) (resV_tmp s6_31) (.ro _ rfl) ?_
                           clear s6_31 mo2_3 mo1_3 mo0_3 ml_3
                           (first | rfl | (refine avb ?_; simp only [decide_eq_true_eq, Bool.false_eq_true, true_iff, false_iff, iff_false, iff_true]; omega) | (simp; omega))))
                 · (first | replace hq_24 := bnt hq_24 | replace hq_24 := bnf hq_24 | replace hq_24 := bt hq_24 | replace hq_24 := bf hq_24 | replace hq_24 := bt' hq_24 | replace hq_24 := bf' hq_24 | skip)
                   first
                   | (cases hq_24; done) | (exfalso; omega)
                   | (
                      (have hw : withinB post 0 ps.length = true := (by assumption); rw [show unlessE (withinB post 0 ps.length) 6 = 0 by rw [hw]; rfl] at e2; have hpo : 0 ≤ post ∧ post ≤ ps.length := (by simpa [withinB] using hw); have hgn := gn_good e2; have hgs := great_stops (b := b) (d := d) hR.1 hpo.1)
                      refine aw_skip ?_
                      refine then_n ?_
                      refine aw_seq ?_
                      refine aw_text (by kernel_rfl) ?_
                      refine al_ro' (ro_eq (ro_ld_ptr k37_ty24 rfl mo0_3 s3_23 (by first | exact Nat.le_of_ble_eq_true rfl | omega | (simp only [lnS] <;> omega) | (simp <;> omega))) (by first | (simp only [packA_t, packA_f, iE, bE, setAt, cellsA, Value.cells, map_vc, map_vn, Nat.reduceAdd, qS] <;> rfl) | rfl)) trivial rfl ?_
                      refine al_ro' (ro_eq (ro_ld_ptr k37_ty26 rfl mo1_3 (up_m rfl s4_23) (by first | exact Nat.le_of_ble_eq_true rfl | omega | (simp only [lnS] <;> omega) | (simp <;> omega))) (by first | (simp only [packA_t, packA_f, iE, bE, setAt, cellsA, Value.cells, map_vc, map_vn, Nat.reduceAdd, qS] <;> rfl) | rfl)) trivial rfl ?_
                      refine al_ro' (ro_fld_ptr k37_fl42_0 rfl (u2 rfl s5_23)) trivial rfl ?_
                      refine al_ro' (ro_eq (ro_ld_ptr k37_ty3 rfl mo2_3 up_h (by first | exact Nat.le_of_ble_eq_true rfl | omega | (simp only [lnS] <;> omega) | (simp <;> omega))) (by first | (simp only [packA_t, packA_f, iE, bE, setAt, cellsA, Value.cells, map_vc, map_vn, Nat.reduceAdd, qS] <;> rfl) | rfl)) trivial rfl ?_
                      refine al_ro' (ro_call (evL_cons (up_m rfl (u2 rfl up_h)) (evL_cons (u2 rfl up_h) (evL_cons up_h evL_nil))) rfl (rGreatestAt_ok nm ps hR.1 b d v hR.2 post hpo) k37_hcf45) trivial rfl ?_
                      refine al_ro' (ro_move up_h) trivial rfl ?_
                      refine al_ro' (ro_extract up_h rfl) trivial rfl ?_
                      refine al_ro' (ro_extract (up_m rfl up_h) rfl) trivial rfl ?_
                      refine al_ro' (ro_assign (up_m rfl up_h)) trivial rfl ?_
                      refine al_ro' (ro_assign (up_m rfl up_h)) trivial rfl ?_
                      refine al_end (fun e_32 he_32 => ?_)
                      have s3_32 := ef 3 he_32 (u2 rfl (u8 rfl s3_23))
                      have s4_32 := ef 4 he_32 (u2 rfl (u8 rfl s4_23))
                      have s5_32 := ef 5 he_32 (u2 rfl (u8 rfl s5_23))
                      have s7_32 := ef 7 he_32 (u2 rfl (u8 rfl s7_23))
                      have s8_32 := ef 8 he_32 (u2 rfl (u8 rfl s8_23))
                      have s9_32 := ef 9 he_32 (u2 rfl (u8 rfl s9_23))
                      have s10_32 := ef 10 he_32 (u2 rfl (u8 rfl s10_23))
                      have s12_32 := ef 12 he_32 (up_m rfl up_h)
                      have s13_32 := ef 13 he_32 up_h
                      clear he_32 s10_23 s3_23 s4_23 s5_23 s67_23 s7_23 s8_23 s9_23
                      refine then_n ?_
                      refine aw_seq ?_
                      refine aw_seq ?_
                      refine aw_cut (fun e mem => (evA e (.tmp 112) = .v (.bool false)) ∧ (evA e (.tmp 3) = evA e_32 (.tmp 3)) ∧ (evA e (.tmp 4) = evA e_32 (.tmp 4)) ∧ (evA e (.tmp 5) = evA e_32 (.tmp 5)) ∧ (evA e (.tmp 7) = evA e_32 (.tmp 7)) ∧ (evA e (.tmp 8) = evA e_32 (.tmp 8)) ∧ (evA e (.tmp 9) = evA e_32 (.tmp 9)) ∧ (evA e (.tmp 12) = evA e_32 (.tmp 12)) ∧ (evA e (.tmp 13) = evA e_32 (.tmp 13)) ∧ m_3 = mem) ?_ ?_
                      ·
                        refine aw_text (by kernel_rfl) ?_
                        refine al_ro' (ro_move s13_32) trivial rfl ?_
                        refine al_ro' (ro_move up_h) trivial rfl ?_
                        refine al_case up_h (fun hb_34 hq_34 => ?_) (fun hb_34 hq_34 => ?_)
                        · (first | replace hq_34 := bnt hq_34 | replace hq_34 := bnf hq_34 | replace hq_34 := bt hq_34 | replace hq_34 := bf hq_34 | replace hq_34 := bt' hq_34 | replace hq_34 := bf' hq_34 | skip)
                          first
                          | (cases hq_34; done) | (exfalso; omega)
                          | (
                             refine al_ro' (ro_move (u2 rfl s10_32)) ⟨_, rfl, hb_34⟩ rfl ?_
                             refine al_ro' (ro_neq up_h ev_c) ⟨_, rfl, (up_m rfl hb_34)⟩ rfl ?_
                             refine al_ro' (ro_move up_h) ⟨_, rfl, (u2 rfl hb_34)⟩ rfl ?_
                             refine al_case up_h (fun hb_35 hq_35 => ?_) (fun hb_35 hq_35 => ?_)
                             · (first | replace hq_35 := bnt hq_35 | replace hq_35 := bnf hq_35 | replace hq_35 := bt hq_35 | replace hq_35 := bf hq_35 | replace hq_35 := bt' hq_35 | replace hq_35 := bf' hq_35 | skip)
                               first
                               | (cases hq_35; done) | (exfalso; omega)
                               | (
                                  refine al_skip' ⟨_, rfl, .inl hb_35⟩ rfl ?_
                                  refine al_skip' ⟨_, rfl, .inl (up_m rfl hb_35)⟩ rfl ?_
                                  refine al_skip' ⟨_, rfl, .inl (u2 rfl hb_35)⟩ rfl ?_
                                  refine al_ro' (ro_pickT (up_m rfl (u2 rfl hb_35)) ev_c) ⟨_, rfl, (u2 rfl (u4 rfl hb_34))⟩ rfl ?_
                                  refine al_ro' (ro_pickT (up_m rfl (u2 rfl (u4 rfl hb_34))) up_h) trivial rfl ?_
                                  refine al_ro' (ro_move up_h) trivial rfl ?_
                                  refine al_skip' ⟨_, rfl, .inl up_h⟩ rfl ?_
                                  refine al_skip' ⟨_, rfl, .inl (up_m rfl up_h)⟩ rfl ?_
                                  refine al_skip' ⟨_, rfl, .inl (u2 rfl up_h)⟩ rfl ?_
                                  refine al_skip' ⟨_, rfl, .inr up_h⟩ rfl ?_
                                  refine al_skip' ⟨_, rfl, .inr (up_m rfl up_h)⟩ rfl ?_
                                  refine al_skip' ⟨_, rfl, .inr (u2 rfl up_h)⟩ rfl ?_
                                  refine al_skip' ⟨_, rfl, .inr up_h⟩ rfl ?_
                                  refine al_skip' ⟨_, rfl, .inr (up_m rfl up_h)⟩ rfl ?_
                                  refine al_skip' ⟨_, rfl, .inr (up_m rfl (u4 rfl up_h))⟩ rfl ?_
                                  refine al_skip' ⟨_, rfl, .inl (up_m rfl (u8 rfl up_h))⟩ rfl ?_
                                  refine al_ro' (ro_pickT (u2 rfl (u8 rfl up_h)) ev_c) trivial rfl ?_
                                  refine al_end (fun e_36 he_36 => ?_)
                                  have s3_36 := ef 3 he_36 (u2 rfl (u4 rfl (u16 rfl s3_32)))
                                  have s4_36 := ef 4 he_36 (u2 rfl (u4 rfl (u16 rfl s4_32)))
                                  have s5_36 := ef 5 he_36 (u2 rfl (u4 rfl (u16 rfl s5_32)))
                                  have s7_36 := ef 7 he_36 (u2 rfl (u4 rfl (u16 rfl s7_32)))
                                  have s8_36 := ef 8 he_36 (u2 rfl (u4 rfl (u16 rfl s8_32)))
                                  have s9_36 := ef 9 he_36 (u2 rfl (u4 rfl (u16 rfl s9_32)))
                                  have s12_36 := ef 12 he_36 (u2 rfl (u4 rfl (u16 rfl s12_32)))
                                  have s13_36 := ef 13 he_36 (u2 rfl (u4 rfl (u16 rfl s13_32)))
                                  have s112_36 := ef 112 he_36 up_h
                                  clear he_36
                                  refine then_n ⟨(s112_36).trans (by (first | rfl | (refine avb ?_; simp only [decide_eq_true_eq, Bool.false_eq_true, true_iff, false_iff, iff_false, iff_true, Bool.not_eq_true', decide_eq_false_iff_not]; omega))), (s3_36).trans (s3_32).symm, (s4_36).trans (s4_32).symm, (s5_36).trans (s5_32).symm, (s7_36).trans (s7_32).symm, (s8_36).trans (s8_32).symm, (s9_36).trans (s9_32).symm, (s12_36).trans (s12_32).symm, (s13_36).trans (s13_32).symm, rfl⟩)
                             · (first | replace hq_35 := bnt hq_35 | replace hq_35 := bnf hq_35 | replace hq_35 := bt hq_35 | replace hq_35 := bf hq_35 | replace hq_35 := bt' hq_35 | replace hq_35 := bf' hq_35 | skip)
                               first
                               | (cases hq_35; done) | (exfalso; omega)
                               | (
                                  refine al_ro' (ro_move (up_m rfl (u4 rfl s9_32))) ⟨_, rfl, hb_35⟩ rfl ?_
                                  refine al_ro' (ro_move (u2 rfl (u4 rfl s12_32))) ⟨_, rfl, (up_m rfl hb_35)⟩ rfl ?_
                                  refine al_ro' (ro_neq (up_m rfl up_h) up_h) ⟨_, rfl, (u2 rfl hb_35)⟩ rfl ?_
                                  refine al_ro' (ro_pickF (up_m rfl (u2 rfl hb_35)) up_h) ⟨_, rfl, (u2 rfl (u4 rfl hb_34))⟩ rfl ?_
                                  refine al_ro' (ro_pickT (up_m rfl (u2 rfl (u4 rfl hb_34))) up_h) trivial rfl ?_
                                  refine al_ro' (ro_move up_h) trivial rfl ?_
                                  refine al_case up_h (fun hb_37 hq_37 => ?_) (fun hb_37 hq_37 => ?_)
                                  · (first | replace hq_37 := bnt hq_37 | replace hq_37 := bnf hq_37 | replace hq_37 := bt hq_37 | replace hq_37 := bf hq_37 | replace hq_37 := bt' hq_37 | replace hq_37 := bf' hq_37 | skip)
                                    first
                                    | (cases hq_37; done) | (exfalso; omega)
                                    | (
                                       refine al_skip' ⟨_, rfl, .inl hb_37⟩ rfl ?_
                                       refine al_skip' ⟨_, rfl, .inl (up_m rfl hb_37)⟩ rfl ?_
                                       refine al_skip' ⟨_, rfl, .inl (u2 rfl hb_37)⟩ rfl ?_
                                       refine al_skip' ⟨_, rfl, .inr up_h⟩ rfl ?_
                                       refine al_skip' ⟨_, rfl, .inr (up_m rfl up_h)⟩ rfl ?_
                                       refine al_skip' ⟨_, rfl, .inr (u2 rfl up_h)⟩ rfl ?_
                                       refine al_skip' ⟨_, rfl, .inr up_h⟩ rfl ?_
                                       refine al_skip' ⟨_, rfl, .inr (up_m rfl up_h)⟩ rfl ?_
                                       refine al_skip' ⟨_, rfl, .inr (up_m rfl (u4 rfl up_h))⟩ rfl ?_
                                       refine al_skip' ⟨_, rfl, .inl (up_m rfl (u8 rfl hb_37))⟩ rfl ?_
                                       refine al_ro' (ro_pickT (u2 rfl (u8 rfl hb_37)) ev_c) trivial rfl ?_
                                       refine al_end (fun e_38 he_38 => ?_)
                                       have s3_38 := ef 3 he_38 (u2 rfl (u4 rfl (u16 rfl s3_32)))
                                       have s4_38 := ef 4 he_38 (u2 rfl (u4 rfl (u16 rfl s4_32)))
                                       have s5_38 := ef 5 he_38 (u2 rfl (u4 rfl (u16 rfl s5_32)))
                                       have s7_38 := ef 7 he_38 (u2 rfl (u4 rfl (u16 rfl s7_32)))
                                       have s8_38 := ef 8 he_38 (u2 rfl (u4 rfl (u16 rfl s8_32)))
                                       have s9_38 := ef 9 he_38 (u2 rfl (u4 rfl (u16 rfl s9_32)))
                                       have s12_38 := ef 12 he_38 (u2 rfl (u4 rfl (u16 rfl s12_32)))
                                       have s13_38 := ef 13 he_38 (u2 rfl (u4 rfl (u16 rfl s13_32)))
                                       have s112_38 := ef 112 he_38 up_h
                                       clear he_38
                                       refine then_n ⟨(s112_38).trans (by (first | rfl | (refine avb ?_; simp only [decide_eq_true_eq, Bool.false_eq_true, true_iff, false_iff, iff_false, iff_true, Bool.not_eq_true', decide_eq_false_iff_not]; omega))), (s3_38).trans (s3_32).symm, (s4_38).trans (s4_32).symm, (s5_38).trans (s5_32).symm, (s7_38).trans (s7_32).symm, (s8_38).trans (s8_32).symm, (s9_38).trans (s9_32).symm, (s12_38).trans (s12_32).symm, (s13_38).trans (s13_32).symm, rfl⟩)
                                  · (first | replace hq_37 := bnt hq_37 | replace hq_37 := bnf hq_37 | replace hq_37 := bt hq_37 | replace hq_37 := bf hq_37 | replace hq_37 := bt' hq_37 | replace hq_37 := bf' hq_37 | skip)
                                    first
                                    | (cases hq_37; done) | (exfalso; omega)
                                    | (
                                       refine al_ro' (ro_move (up_m rfl (u2 rfl (u8 rfl s13_32)))) ⟨_, rfl, hb_37⟩ rfl ?_
                                       refine al_ro' (ro_not up_h) ⟨_, rfl, (up_m rfl hb_37)⟩ rfl ?_
                                       refine al_ro' (ro_move up_h) ⟨_, rfl, (u2 rfl hb_37)⟩ rfl ?_
                                       refine al_case up_h (fun hb_39 hq_39 => ?_) (fun hb_39 hq_39 => ?_)
                                       · (first | replace hq_39 := bnt hq_39 | replace hq_39 := bnf hq_39 | replace hq_39 := bt hq_39 | replace hq_39 := bf hq_39 | replace hq_39 := bt' hq_39 | replace hq_39 := bf' hq_39 | skip)
                                         first
                                         | (cases hq_39; done) | (exfalso; omega)
                                         | (
                                            refine al_ro' (ro_move (u2 rfl (u4 rfl (u8 rfl s10_32)))) ⟨_, rfl, hb_39⟩ rfl ?_
                                            refine al_ro' (ro_neq up_h ev_c) ⟨_, rfl, (up_m rfl hb_39)⟩ rfl ?_
                                            refine al_ro' (ro_move up_h) ⟨_, rfl, (u2 rfl hb_39)⟩ rfl ?_
                                            refine al_case up_h (fun hb_40 hq_40 => ?_) (fun hb_40 hq_40 => ?_)
                                            · (first | replace hq_40 := bnt hq_40 | replace hq_40 := bnf hq_40 | replace hq_40 := bt hq_40 | replace hq_40 := bf hq_40 | replace hq_40 := bt' hq_40 | replace hq_40 := bf' hq_40 | skip)
                                              first
                                              | (cases hq_40; done) | (exfalso; omega)
                                              | (
                                                 refine al_skip' ⟨_, rfl, .inl hb_40⟩ rfl ?_
                                                 refine al_skip' ⟨_, rfl, .inl (up_m rfl hb_40)⟩ rfl ?_
                                                 refine al_ro' (ro_pickT (u2 rfl hb_40) ev_c) ⟨_, rfl, (up_m rfl (u4 rfl hb_39))⟩ rfl ?_
                                                 refine al_ro' (ro_pickT (u2 rfl (u4 rfl hb_39)) up_h) ⟨_, rfl, (up_m rfl (u8 rfl hb_37))⟩ rfl ?_
                                                 refine al_ro' (ro_pickF (u2 rfl (u8 rfl hb_37)) up_h) trivial rfl ?_
                                                 refine al_end (fun e_41 he_41 => ?_)
                                                 have s3_41 := ef 3 he_41 (u2 rfl (u4 rfl (u16 rfl s3_32)))
                                                 have s4_41 := ef 4 he_41 (u2 rfl (u4 rfl (u16 rfl s4_32)))
                                                 have s5_41 := ef 5 he_41 (u2 rfl (u4 rfl (u16 rfl s5_32)))
                                                 have s7_41 := ef 7 he_41 (u2 rfl (u4 rfl (u16 rfl s7_32)))
                                                 have s8_41 := ef 8 he_41 (u2 rfl (u4 rfl (u16 rfl s8_32)))
                                                 have s9_41 := ef 9 he_41 (u2 rfl (u4 rfl (u16 rfl s9_32)))
                                                 have s12_41 := ef 12 he_41 (u2 rfl (u4 rfl (u16 rfl s12_32)))
                                                 have s13_41 := ef 13 he_41 (u2 rfl (u4 rfl (u16 rfl s13_32)))
                                                 have s112_41 := ef 112 he_41 up_h
                                                 clear he_41
                                                 refine then_n ⟨(s112_41).trans (by (first | rfl | (refine avb ?_; simp only [decide_eq_true_eq, Bool.false_eq_true, true_iff, false_iff, iff_false, iff_true, Bool.not_eq_true', decide_eq_false_iff_not]; omega))), (s3_41).trans (s3_32).symm, (s4_41).trans (s4_32).symm, (s5_41).trans (s5_32).symm, (s7_41).trans (s7_32).symm, (s8_41).trans (s8_32).symm, (s9_41).trans (s9_32).symm, (s12_41).trans (s12_32).symm, (s13_41).trans (s13_32).symm, rfl⟩)
                                            · (first | replace hq_40 := bnt hq_40 | replace hq_40 := bnf hq_40 | replace hq_40 := bt hq_40 | replace hq_40 := bf hq_40 | replace hq_40 := bt' hq_40 | replace hq_40 := bf' hq_40 | skip)
                                              first
                                              | (cases hq_40; done) | (exfalso; omega)
                                              | (
                                                 refine al_ro' (ro_move (up_m rfl (u16 rfl s9_32))) ⟨_, rfl, hb_40⟩ rfl ?_
                                                 refine al_ro' (ro_neq up_h ev_c) ⟨_, rfl, (up_m rfl hb_40)⟩ rfl ?_
                                                 refine al_ro' (ro_pickF (u2 rfl hb_40) up_h) ⟨_, rfl, (up_m rfl (u4 rfl hb_39))⟩ rfl ?_
                                                 refine al_ro' (ro_pickT (u2 rfl (u4 rfl hb_39)) up_h) ⟨_, rfl, (up_m rfl (u8 rfl hb_37))⟩ rfl ?_
                                                 refine al_ro' (ro_pickF (u2 rfl (u8 rfl hb_37)) up_h) trivial rfl ?_
                                                 refine al_end (fun e_42 he_42 => ?_)
                                                 have s3_42 := ef 3 he_42 (u2 rfl (u4 rfl (u16 rfl s3_32)))
                                                 have s4_42 := ef 4 he_42 (u2 rfl (u4 rfl (u16 rfl s4_32)))
                                                 have s5_42 := ef 5 he_42 (u2 rfl (u4 rfl (u16 rfl s5_32)))
                                                 have s7_42 := ef 7 he_42 (u2 rfl (u4 rfl (u16 rfl s7_32)))
                                                 have s8_42 := ef 8 he_42 (u2 rfl (u4 rfl (u16 rfl s8_32)))
                                                 have s9_42 := ef 9 he_42 (u2 rfl (u4 rfl (u16 rfl s9_32)))
                                                 have s12_42 := ef 12 he_42 (u2 rfl (u4 rfl (u16 rfl s12_32)))
                                                 have s13_42 := ef 13 he_42 (u2 rfl (u4 rfl (u16 rfl s13_32)))
                                                 have s112_42 := ef 112 he_42 up_h
                                                 clear he_42
                                                 refine then_n ⟨(s112_42).trans (by (first | rfl | (refine avb ?_; simp only [decide_eq_true_eq, Bool.false_eq_true, true_iff, false_iff, iff_false, iff_true, Bool.not_eq_true', decide_eq_false_iff_not]; omega))), (s3_42).trans (s3_32).symm, (s4_42).trans (s4_32).symm, (s5_42).trans (s5_32).symm, (s7_42).trans (s7_32).symm, (s8_42).trans (s8_32).symm, (s9_42).trans (s9_32).symm, (s12_42).trans (s12_32).symm, (s13_42).trans (s13_32).symm, rfl⟩))
                                       · (first | replace hq_39 := bnt hq_39 | replace hq_39 := bnf hq_39 | replace hq_39 := bt hq_39 | replace hq_39 := bf hq_39 | replace hq_39 := bt' hq_39 | replace hq_39 := bf' hq_39 | skip)
                                         first
                                         | (cases hq_39; done) | (exfalso; omega)
                                         | (
                                            refine al_skip' ⟨_, rfl, .inl hb_39⟩ rfl ?_
                                            refine al_skip' ⟨_, rfl, .inl (up_m rfl hb_39)⟩ rfl ?_
                                            refine al_skip' ⟨_, rfl, .inl (u2 rfl hb_39)⟩ rfl ?_
                                            refine al_skip' ⟨_, rfl, .inr up_h⟩ rfl ?_
                                            refine al_skip' ⟨_, rfl, .inr (up_m rfl up_h)⟩ rfl ?_
                                            refine al_skip' ⟨_, rfl, .inl (up_m rfl (u4 rfl hb_39))⟩ rfl ?_
                                            refine al_ro' (ro_pickF (u2 rfl (u4 rfl hb_39)) ev_c) ⟨_, rfl, (up_m rfl (u8 rfl hb_37))⟩ rfl ?_
                                            refine al_ro' (ro_pickF (u2 rfl (u8 rfl hb_37)) up_h) trivial rfl ?_
                                            refine al_end (fun e_43 he_43 => ?_)
                                            have s3_43 := ef 3 he_43 (u2 rfl (u4 rfl (u16 rfl s3_32)))
                                            have s4_43 := ef 4 he_43 (u2 rfl (u4 rfl (u16 rfl s4_32)))
                                            have s5_43 := ef 5 he_43 (u2 rfl (u4 rfl (u16 rfl s5_32)))
                                            have s7_43 := ef 7 he_43 (u2 rfl (u4 rfl (u16 rfl s7_32)))
                                            have s8_43 := ef 8 he_43 (u2 rfl (u4 rfl (u16 rfl s8_32)))
                                            have s9_43 := ef 9 he_43 (u2 rfl (u4 rfl (u16 rfl s9_32)))
                                            have s12_43 := ef 12 he_43 (u2 rfl (u4 rfl (u16 rfl s12_32)))
                                            have s13_43 := ef 13 he_43 (u2 rfl (u4 rfl (u16 rfl s13_32)))
                                            have s112_43 := ef 112 he_43 up_h
                                            clear he_43
                                            refine then_n ⟨(s112_43).trans (by (first | rfl | (refine avb ?_; simp only [decide_eq_true_eq, Bool.false_eq_true, true_iff, false_iff, iff_false, iff_true, Bool.not_eq_true', decide_eq_false_iff_not]; omega))), (s3_43).trans (s3_32).symm, (s4_43).trans (s4_32).symm, (s5_43).trans (s5_32).symm, (s7_43).trans (s7_32).symm, (s8_43).trans (s8_32).symm, (s9_43).trans (s9_32).symm, (s12_43).trans (s12_32).symm, (s13_43).trans (s13_32).symm, rfl⟩))))
                        · (first | replace hq_34 := bnt hq_34 | replace hq_34 := bnf hq_34 | replace hq_34 := bt hq_34 | replace hq_34 := bf hq_34 | replace hq_34 := bt' hq_34 | replace hq_34 := bf' hq_34 | skip)
                          first
                          | (cases hq_34; done) | (exfalso; omega)
                          | (
                             refine al_skip' ⟨_, rfl, .inl hb_34⟩ rfl ?_
                             refine al_skip' ⟨_, rfl, .inl (up_m rfl hb_34)⟩ rfl ?_
                             refine al_skip' ⟨_, rfl, .inl (u2 rfl hb_34)⟩ rfl ?_
                             refine al_skip' ⟨_, rfl, .inr up_h⟩ rfl ?_
                             refine al_skip' ⟨_, rfl, .inr (up_m rfl up_h)⟩ rfl ?_
                             refine al_skip' ⟨_, rfl, .inr (u2 rfl up_h)⟩ rfl ?_
                             refine al_skip' ⟨_, rfl, .inl (u2 rfl (u4 rfl hb_34))⟩ rfl ?_
                             refine al_ro' (ro_pickF (up_m rfl (u2 rfl (u4 rfl hb_34))) ev_c) trivial rfl ?_
                             refine al_ro' (ro_move up_h) trivial rfl ?_
                             refine al_ro' (ro_move (up_m rfl (u2 rfl (u8 rfl s13_32)))) ⟨_, rfl, up_h⟩ rfl ?_
                             refine al_ro' (ro_not up_h) ⟨_, rfl, (up_m rfl up_h)⟩ rfl ?_
                             refine al_ro' (ro_move up_h) ⟨_, rfl, (u2 rfl up_h)⟩ rfl ?_
                             refine al_case up_h (fun hb_44 hq_44 => ?_) (fun hb_44 hq_44 => ?_)
                             · (first | replace hq_44 := bnt hq_44 | replace hq_44 := bnf hq_44 | replace hq_44 := bt hq_44 | replace hq_44 := bf hq_44 | replace hq_44 := bt' hq_44 | replace hq_44 := bf' hq_44 | skip)
                               first
                               | (cases hq_44; done) | (exfalso; omega)
                               | (
                                  refine al_ro' (ro_move (u2 rfl (u4 rfl (u8 rfl s10_32)))) ⟨_, rfl, hb_44⟩ rfl ?_
                                  refine al_ro' (ro_neq up_h ev_c) ⟨_, rfl, (up_m rfl hb_44)⟩ rfl ?_
                                  refine al_ro' (ro_move up_h) ⟨_, rfl, (u2 rfl hb_44)⟩ rfl ?_
                                  refine al_case up_h (fun hb_45 hq_45 => ?_) (fun hb_45 hq_45 => ?_)
                                  · (first | replace hq_45 := bnt hq_45 | replace hq_45 := bnf hq_45 | replace hq_45 := bt hq_45 | replace hq_45 := bf hq_45 | replace hq_45 := bt' hq_45 | replace hq_45 := bf' hq_45 | skip)
                                    first
                                    | (cases hq_45; done) | (exfalso; omega)
                                    | (
                                       refine al_skip' ⟨_, rfl, .inl hb_45⟩ rfl ?_
                                       refine al_skip' ⟨_, rfl, .inl (up_m rfl hb_45)⟩ rfl ?_
                                       refine al_ro' (ro_pickT (u2 rfl hb_45) ev_c) ⟨_, rfl, (up_m rfl (u4 rfl hb_44))⟩ rfl ?_
                                       refine al_ro' (ro_pickT (u2 rfl (u4 rfl hb_44)) up_h) ⟨_, rfl, (up_m rfl (u8 rfl up_h))⟩ rfl ?_
                                       refine al_ro' (ro_pickF (u2 rfl (u8 rfl up_h)) up_h) trivial rfl ?_
                                       refine al_end (fun e_46 he_46 => ?_)
                                       have s3_46 := ef 3 he_46 (u2 rfl (u4 rfl (u16 rfl s3_32)))
                                       have s4_46 := ef 4 he_46 (u2 rfl (u4 rfl (u16 rfl s4_32)))
                                       have s5_46 := ef 5 he_46 (u2 rfl (u4 rfl (u16 rfl s5_32)))
                                       have s7_46 := ef 7 he_46 (u2 rfl (u4 rfl (u16 rfl s7_32)))
                                       have s8_46 := ef 8 he_46 (u2 rfl (u4 rfl (u16 rfl s8_32)))
                                       have s9_46 := ef 9 he_46 (u2 rfl (u4 rfl (u16 rfl s9_32)))
                                       have s12_46 := ef 12 he_46 (u2 rfl (u4 rfl (u16 rfl s12_32)))
                                       have s13_46 := ef 13 he_46 (u2 rfl (u4 rfl (u16 rfl s13_32)))
                                       have s112_46 := ef 112 he_46 up_h
                                       clear he_46
                                       refine then_n ⟨(s112_46).trans (by (first | rfl | (refine avb ?_; simp only [decide_eq_true_eq, Bool.false_eq_true, true_iff, false_iff, iff_false, iff_true, Bool.not_eq_true', decide_eq_false_iff_not]; omega))), (s3_46).trans (s3_32).symm, (s4_46).trans (s4_32).symm, (s5_46).trans (s5_32).symm, (s7_46).trans (s7_32).symm, (s8_46).trans (s8_32).symm, (s9_46).trans (s9_32).symm, (s12_46).trans (s12_32).symm, (s13_46).trans (s13_32).symm, rfl⟩)
                                  · (first | replace hq_45 := bnt hq_45 | replace hq_45 := bnf hq_45 | replace hq_45 := bt hq_45 | replace hq_45 := bf hq_45 | replace hq_45 := bt' hq_45 | replace hq_45 := bf' hq_45 | skip)
                                    first
                                    | (cases hq_45; done) | (exfalso; omega)
                                    | (
                                       refine al_ro' (ro_move (up_m rfl (u16 rfl s9_32))) ⟨_, rfl, hb_45⟩ rfl ?_
                                       refine al_ro' (ro_neq up_h ev_c) ⟨_, rfl, (up_m rfl hb_45)⟩ rfl ?_
                                       refine al_ro' (ro_pickF (u2 rfl hb_45) up_h) ⟨_, rfl, (up_m rfl (u4 rfl hb_44))⟩ rfl ?_
                                       refine al_ro' (ro_pickT (u2 rfl (u4 rfl hb_44)) up_h) ⟨_, rfl, (up_m rfl (u8 rfl up_h))⟩ rfl ?_
                                       refine al_ro' (ro_pickF (u2 rfl (u8 rfl up_h)) up_h) trivial rfl ?_
                                       refine al_end (fun e_47 he_47 => ?_)
                                       have s3_47 := ef 3 he_47 (u2 rfl (u4 rfl (u16 rfl s3_32)))
                                       have s4_47 := ef 4 he_47 (u2 rfl (u4 rfl (u16 rfl s4_32)))
                                       have s5_47 := ef 5 he_47 (u2 rfl (u4 rfl (u16 rfl s5_32)))
                                       have s7_47 := ef 7 he_47 (u2 rfl (u4 rfl (u16 rfl s7_32)))
                                       have s8_47 := ef 8 he_47 (u2 rfl (u4 rfl (u16 rfl s8_32)))
                                       have s9_47 := ef 9 he_47 (u2 rfl (u4 rfl (u16 rfl s9_32)))
                                       have s12_47 := ef 12 he_47 (u2 rfl (u4 rfl (u16 rfl s12_32)))
                                       have s13_47 := ef 13 he_47 (u2 rfl (u4 rfl (u16 rfl s13_32)))
                                       have s112_47 := ef 112 he_47 up_h
                                       clear he_47
                                       refine then_n ⟨(s112_47).trans (by (first | rfl | (refine avb ?_; simp only [decide_eq_true_eq, Bool.false_eq_true, true_iff, false_iff, iff_false, iff_true, Bool.not_eq_true', decide_eq_false_iff_not]; omega))), (s3_47).trans (s3_32).symm, (s4_47).trans (s4_32).symm, (s5_47).trans (s5_32).symm, (s7_47).trans (s7_32).symm, (s8_47).trans (s8_32).symm, (s9_47).trans (s9_32).symm, (s12_47).trans (s12_32).symm, (s13_47).trans (s13_32).symm, rfl⟩))
                             · (first | replace hq_44 := bnt hq_44 | replace hq_44 := bnf hq_44 | replace hq_44 := bt hq_44 | replace hq_44 := bf hq_44 | replace hq_44 := bt' hq_44 | replace hq_44 := bf' hq_44 | skip)
                               first
                               | (cases hq_44; done) | (exfalso; omega)
                               | (
                                  refine al_skip' ⟨_, rfl, .inl hb_44⟩ rfl ?_
                                  refine al_skip' ⟨_, rfl, .inl (up_m rfl hb_44)⟩ rfl ?_
                                  refine al_skip' ⟨_, rfl, .inl (u2 rfl hb_44)⟩ rfl ?_
                                  refine al_skip' ⟨_, rfl, .inr up_h⟩ rfl ?_
                                  refine al_skip' ⟨_, rfl, .inr (up_m rfl up_h)⟩ rfl ?_
                                  refine al_skip' ⟨_, rfl, .inl (up_m rfl (u4 rfl hb_44))⟩ rfl ?_
                                  refine al_ro' (ro_pickF (u2 rfl (u4 rfl hb_44)) ev_c) ⟨_, rfl, (up_m rfl (u8 rfl up_h))⟩ rfl ?_
                                  refine al_ro' (ro_pickF (u2 rfl (u8 rfl up_h)) up_h) trivial rfl ?_
                                  refine al_end (fun e_48 he_48 => ?_)
                                  have s3_48 := ef 3 he_48 (u2 rfl (u4 rfl (u16 rfl s3_32)))
                                  have s4_48 := ef 4 he_48 (u2 rfl (u4 rfl (u16 rfl s4_32)))
                                  have s5_48 := ef 5 he_48 (u2 rfl (u4 rfl (u16 rfl s5_32)))
                                  have s7_48 := ef 7 he_48 (u2 rfl (u4 rfl (u16 rfl s7_32)))
                                  have s8_48 := ef 8 he_48 (u2 rfl (u4 rfl (u16 rfl s8_32)))
                                  have s9_48 := ef 9 he_48 (u2 rfl (u4 rfl (u16 rfl s9_32)))
                                  have s12_48 := ef 12 he_48 (u2 rfl (u4 rfl (u16 rfl s12_32)))
                                  have s13_48 := ef 13 he_48 (u2 rfl (u4 rfl (u16 rfl s13_32)))
                                  have s112_48 := ef 112 he_48 up_h
                                  clear he_48
                                  refine then_n ⟨(s112_48).trans (by (first | rfl | (refine avb ?_; simp only [decide_eq_true_eq, Bool.false_eq_true, true_iff, false_iff, iff_false, iff_true, Bool.not_eq_true', decide_eq_false_iff_not]; omega))), (s3_48).trans (s3_32).symm, (s4_48).trans (s4_32).symm, (s5_48).trans (s5_32).symm, (s7_48).trans (s7_32).symm, (s8_48).trans (s8_32).symm, (s9_48).trans (s9_32).symm, (s12_48).trans (s12_32).symm, (s13_48).trans (s13_32).symm, rfl⟩))
                      · rintro e_33 _ ⟨s112_33, k3_33, k4_33, k5_33, k7_33, k8_33, k9_33, k12_33, k13_33, rfl⟩
                        have s3_33 := k3_33.trans s3_32
                        have s4_33 := k4_33.trans s4_32
                        have s5_33 := k5_33.trans s5_32
                        have s7_33 := k7_33.trans s7_32
                        have s8_33 := k8_33.trans s8_32
                        have s9_33 := k9_33.trans s9_32
                        have s12_33 := k12_33.trans s12_32
                        have s13_33 := k13_33.trans s13_32
                        refine aw_case s112_33 (fun hq_49 => ?_) (fun hq_49 => ?_)
                        · (first | replace hq_49 := bnt hq_49 | replace hq_49 := bnf hq_49 | replace hq_49 := bt hq_49 | replace hq_49 := bf hq_49 | replace hq_49 := bt' hq_49 | replace hq_49 := bf' hq_49 | skip)
                          first
                          | (cases hq_49; done) | (exfalso; omega)
                          | (
                             refine aw_seq ?_
                             refine aw_text (by kernel_rfl) ?_
                             refine al_ro' (ro_assign ev_c) trivial rfl ?_
                             refine al_end (fun e_50 he_50 => ?_)
                             have s6_50 := ef 6 he_50 up_h
                             clear he_50 s112_33 s12_33 s13_33 s3_33 s4_33 s5_33 s7_33 s8_33 s9_33
                             refine then_n ?_
                             refine aw_ret ?_
                             refine then_r ?_
                             refine ret1 (.inr rfl) (by kernel_rfl) (resV_tmp s6_50) (.ro _ rfl) ?_
                             clear s6_50 mo2_3 mo1_3 mo0_3 ml_3
                             (first | rfl | (refine avb ?_; simp only [decide_eq_true_eq, Bool.false_eq_true, true_iff, false_iff, iff_false, iff_true]; omega) | (simp; omega)))
                        · (first | replace hq_49 := bnt hq_49 | replace hq_49 := bnf hq_49 | replace hq_49 := bt hq_49 | replace hq_49 := bf hq_49 | replace hq_49 := bt' hq_49 | replace hq_49 := bf' hq_49 | skip)
                          first
                          | (cases hq_49; done) | (exfalso; omega)
                          | (
                             refine aw_skip ?_
                             refine then_n ?_
                             refine aw_seq ?_
                             refine aw_seq ?_
                             refine aw_text (by kernel_rfl) ?_
                             refine al_ro' (ro_eq (ro_ld_ptr k37_ty24 rfl mo0_3 s3_33 (by first | exact Nat.le_of_ble_eq_true rfl | omega | (simp only [lnS] <;> omega) | (simp <;> omega))) (by first | (simp only [packA_t, packA_f, iE, bE, setAt, cellsA, Value.cells, map_vc, map_vn, Nat.reduceAdd, qS] <;> rfl) | rfl)) trivial rfl ?_
                             refine al_ro' (ro_eq (ro_ld_ptr k37_ty42 rfl mo2_3 (up_m rfl s5_33) (by first | exact Nat.le_of_ble_eq_true rfl | omega | (simp only [lnS] <;> omega) | (simp <;> omega))) (by first | (simp only [packA_t, packA_f, iE, bE, setAt, cellsA, Value.cells, map_vc, map_vn, Nat.reduceAdd, qS] <;> rfl) | rfl)) trivial rfl ?_
                             refine al_ro' (ro_call (evL_cons (up_m rfl up_h) (evL_cons up_h evL_nil)) rfl (rStateErr_ok nm ps post sq) k37_hcf25) trivial rfl ?_
                             refine al_ro' (ro_assign up_h) trivial rfl ?_
                             refine al_end (fun e_51 he_51 => ?_)
                             have s3_51 := ef 3 he_51 (u4 rfl s3_33)
                             have s4_51 := ef 4 he_51 (u4 rfl s4_33)
                             have s5_51 := ef 5 he_51 (u4 rfl s5_33)
                             have s7_51 := ef 7 he_51 (u4 rfl s7_33)
                             have s8_51 := ef 8 he_51 (u4 rfl s8_33)
                             have s9_51 := ef 9 he_51 (u4 rfl s9_33)
                             have s11_51 := ef 11 he_51 up_h
                             have s12_51 := ef 12 he_51 (u4 rfl s12_33)
                             have s13_51 := ef 13 he_51 (u4 rfl s13_33)
                             clear he_51 s112_33 s12_33 s13_33 s3_33 s4_33 s5_33 s7_33 s8_33 s9_33
                             refine then_n ?_
                             refine aw_seq ?_
                             refine aw_text (by kernel_rfl) ?_
                             refine al_ro' (ro_move s11_51) trivial rfl ?_
                             refine al_ro' (ro_neq up_h ev_c) trivial rfl ?_
                             refine al_end (fun e_52 he_52 => ?_)
                             have s3_52 := ef 3 he_52 (u2 rfl s3_51)
                             have s4_52 := ef 4 he_52 (u2 rfl s4_51)
                             have s5_52 := ef 5 he_52 (u2 rfl s5_51)
                             have s7_52 := ef 7 he_52 (u2 rfl s7_51)
                             have s8_52 := ef 8 he_52 (u2 rfl s8_51)
                             have s9_52 := ef 9 he_52 (u2 rfl s9_51)
                             have s11_52 := ef 11 he_52 (u2 rfl s11_51)
                             have s12_52 := ef 12 he_52 (u2 rfl s12_51)
                             have s13_52 := ef 13 he_52 (u2 rfl s13_51)
                             have s117_52 := ef 117 he_52 up_h
                             clear he_52 s11_51 s12_51 s13_51 s3_51 s4_51 s5_51 s7_51 s8_51 s9_51
                             refine then_n ?_
                             refine aw_case s117_52 (fun hq_53 => ?_) (fun hq_53 => ?_)
                             · (first | replace hq_53 := bnt hq_53 | replace hq_53 := bnf hq_53 | replace hq_53 := bt hq_53 | replace hq_53 := bf hq_53 | replace hq_53 := bt' hq_53 | replace hq_53 := bf' hq_53 | skip)
                               first
                               | (cases hq_53; done) | (exfalso; omega)
                               | (
                                  (have hsb := so_bad (nm := nm) (ps := ps) (b := b) (d := d) (v := v) (post := post) (sq := sq) (by omega))
                                  refine aw_seq ?_
                                  refine aw_text (by kernel_rfl) ?_
                                  refine al_ro' (ro_move s8_52) trivial rfl ?_
                                  refine al_ro' (ro_move (up_m rfl s11_52)) trivial rfl ?_
                                  refine al_ro' (ro_eql (up_m rfl up_h) up_h) trivial rfl ?_
                                  refine al_ro' (ro_move up_h) trivial rfl ?_
                                  refine al_case up_h (fun hb_54 hq_54 => ?_) (fun hb_54 hq_54 => ?_)
                                  · (first | replace hq_54 := bnt hq_54 | replace hq_54 := bnf hq_54 | replace hq_54 := bt hq_54 | replace hq_54 := bf hq_54 | replace hq_54 := bt' hq_54 | replace hq_54 := bf' hq_54 | skip)
                                    first
                                    | (cases hq_54; done) | (exfalso; omega)
                                    | (
                                       refine al_ro' (ro_move (u4 rfl s7_52)) ⟨_, rfl, hb_54⟩ rfl ?_
                                       refine al_ro' (ro_eq (ro_len_row up_h rfl k37_sl30.1) (by first | (simp only [lnS] <;> rfl) | rfl)) ⟨_, rfl, (up_m rfl hb_54)⟩ rfl ?_
                                       refine al_ro' (ro_eql up_h ev_c) ⟨_, rfl, (u2 rfl hb_54)⟩ rfl ?_
                                       refine al_ro' (ro_pickT (up_m rfl (u2 rfl hb_54)) up_h) trivial rfl ?_
                                       refine al_ro' (ro_assign up_h) trivial rfl ?_
                                       refine al_end (fun e_55 he_55 => ?_)
                                       have s6_55 := ef 6 he_55 up_h
                                       clear he_55 hb_54 s117_52 s11_52 s12_52 s13_52 s3_52 s4_52 s5_52 s7_52 s8_52 s9_52
                                       refine then_n ?_
                                       refine aw_ret ?_
                                       refine then_r ?_
                                       refine ret1 (.inr rfl) (by kernel_rfl) (resV_tmp s6_55) (.ro _ rfl) ?_
                                       clear s6_55 mo2_3 mo1_3 mo0_3 ml_3
                                       (first | rfl | (refine avb ?_; simp only [decide_eq_true_eq, Bool.false_eq_true, true_iff, false_iff, iff_false, iff_true]; omega) | (simp; omega)))
                                  · (first | replace hq_54 := bnt hq_54 | replace hq_54 := bnf hq_54 | replace hq_54 := bt hq_54 | replace hq_54 := bf hq_54 | replace hq_54 := bt' hq_54 | replace hq_54 := bf' hq_54 | skip)
                                    first
                                    | (cases hq_54; done) | (exfalso; omega)
                                    | (
                                       refine al_skip' ⟨_, rfl, .inl hb_54⟩ rfl ?_
                                       refine al_skip' ⟨_, rfl, .inl (up_m rfl hb_54)⟩ rfl ?_
                                       refine al_skip' ⟨_, rfl, .inl (u2 rfl hb_54)⟩ rfl ?_
                                       refine al_ro' (ro_pickF (up_m rfl (u2 rfl hb_54)) ev_c) trivial rfl ?_
                                       refine al_ro' (ro_assign up_h) trivial rfl ?_
                                       refine al_end (fun e_56 he_56 => ?_)
                                       have s6_56 := ef 6 he_56 up_h
                                       clear he_56 hb_54 s117_52 s11_52 s12_52 s13_52 s3_52 s4_52 s5_52 s7_52 s8_52 s9_52
                                       refine then_n ?_
                                       refine aw_ret ?_
                                       refine then_r ?_
                                       refine ret1 (.inr rfl) (by kernel_rfl) (resV_tmp s6_56) (.ro _ rfl) ?_
                                       clear s6_56 mo2_3 mo1_3 mo0_3 ml_3
                                       (first | rfl | (refine avb ?_; simp only [decide_eq_true_eq, Bool.false_eq_true, true_iff, false_iff, iff_false, iff_true]; omega) | (simp; omega))))
                             · (first | replace hq_53 := bnt hq_53 | replace hq_53 := bnf hq_53 | replace hq_53 := bt hq_53 | replace hq_53 := bf hq_53 | replace hq_53 := bt' hq_53 | replace hq_53 := bf' hq_53 | skip)
                               first
                               | (cases hq_53; done) | (exfalso; omega)
                               | (
                                  (have hse : stE nm ps b d v post sq = 0 := (by omega); have hsq := (stE_right hse).2.2.2; have hsl : soL nm ps b d v post sq = rcW ps b d post sq := (by unfold soL; rw [if_pos hse]); have hsg := stops_great (ps := ps) (b := b) (d := d) hpo.1 hsq.1; have hl1 : (rcW ps b d post sq).length ≤ (stL ps post).length := rcP_len; have hl2 := stL_len ps post; have hl3 : (soL nm ps b d v post sq).length = (rcW ps b d post sq).length := (by rw [hsl]))
                                  refine aw_skip ?_
                                  refine then_n ?_
                                  refine aw_seq ?_
                                  refine aw_text (by kernel_rfl) ?_
                                  refine al_ro' (ro_eq (ro_ld_ptr k37_ty24 rfl mo0_3 s3_52 (by first | exact Nat.le_of_ble_eq_true rfl | omega | (simp only [lnS] <;> omega) | (simp <;> omega))) (by first | (simp only [packA_t, packA_f, iE, bE, setAt, cellsA, Value.cells, map_vc, map_vn, Nat.reduceAdd, qS] <;> rfl) | rfl)) trivial rfl ?_
                                  refine al_ro' (ro_eq (ro_ld_ptr k37_ty26 rfl mo1_3 (up_m rfl s4_52) (by first | exact Nat.le_of_ble_eq_true rfl | omega | (simp only [lnS] <;> omega) | (simp <;> omega))) (by first | (simp only [packA_t, packA_f, iE, bE, setAt, cellsA, Value.cells, map_vc, map_vn, Nat.reduceAdd, qS] <;> rfl) | rfl)) trivial rfl ?_
                                  refine al_ro' (ro_eq (ro_ld_ptr k37_ty42 rfl mo2_3 (u2 rfl s5_52) (by first | exact Nat.le_of_ble_eq_true rfl | omega | (simp only [lnS] <;> omega) | (simp <;> omega))) (by first | (simp only [packA_t, packA_f, iE, bE, setAt, cellsA, Value.cells, map_vc, map_vn, Nat.reduceAdd, qS] <;> rfl) | rfl)) trivial rfl ?_
                                  refine al_ro' (ro_call (evL_cons (u2 rfl up_h) (evL_cons (up_m rfl up_h) (evL_cons up_h evL_nil))) rfl (rStopsOf_ok nm ps hR.1 b d v hR.2 post sq hpo hsq) k37_hcf46) trivial rfl ?_
                                  refine al_ro' (ro_assign up_h) trivial rfl ?_
                                  refine al_end (fun e_57 he_57 => ?_)
                                  have s3_57 := ef 3 he_57 (up_m rfl (u4 rfl s3_52))
                                  have s4_57 := ef 4 he_57 (up_m rfl (u4 rfl s4_52))
                                  have s5_57 := ef 5 he_57 (up_m rfl (u4 rfl s5_52))
                                  have s7_57 := ef 7 he_57 (up_m rfl (u4 rfl s7_52))
                                  have s8_57 := ef 8 he_57 (up_m rfl (u4 rfl s8_52))
                                  have s9_57 := ef 9 he_57 (up_m rfl (u4 rfl s9_52))
                                  have s12_57 := ef 12 he_57 (up_m rfl (u4 rfl s12_52))
                                  have s13_57 := ef 13 he_57 (up_m rfl (u4 rfl s13_52))
                                  have s14_57 := ef 14 he_57 up_h
                                  clear he_57 s117_52 s11_52 s12_52 s13_52 s3_52 s4_52 s5_52 s7_52 s8_52 s9_52
                                  refine then_n ?_
                                  refine aw_seq ?_
                                  refine aw_seq ?_
                                  refine aw_cut (fun e mem => (evA e (.tmp 137) = .v (.bool false)) ∧ (evA e (.tmp 3) = evA e_57 (.tmp 3)) ∧ (evA e (.tmp 4) = evA e_57 (.tmp 4)) ∧ (evA e (.tmp 5) = evA e_57 (.tmp 5)) ∧ (evA e (.tmp 9) = evA e_57 (.tmp 9)) ∧ (evA e (.tmp 12) = evA e_57 (.tmp 12)) ∧ (evA e (.tmp 13) = evA e_57 (.tmp 13)) ∧ (evA e (.tmp 14) = evA e_57 (.tmp 14)) ∧ m_3 = mem) ?_ ?_
                                  ·
                                    refine aw_text (by kernel_rfl) ?_
                                    refine al_ro' (ro_move s8_57) trivial rfl ?_
                                    refine al_ro' (ro_neq up_h ev_c) trivial rfl ?_
                                    refine al_ro' (ro_move up_h) trivial rfl ?_
                                    refine al_case up_h (fun hb_59 hq_59 => ?_) (fun hb_59 hq_59 => ?_)
                                    · (first | replace hq_59 := bnt hq_59 | replace hq_59 := bnf hq_59 | replace hq_59 := bt hq_59 | replace hq_59 := bf hq_59 | replace hq_59 := bt' hq_59 | replace hq_59 := bf' hq_59 | skip)
                                      first
                                      | (cases hq_59; done) | (exfalso; omega)
                                      | (
                                         refine al_skip' ⟨_, rfl, .inl hb_59⟩ rfl ?_
                                         refine al_skip' ⟨_, rfl, .inl (up_m rfl hb_59)⟩ rfl ?_
                                         refine al_skip' ⟨_, rfl, .inl (u2 rfl hb_59)⟩ rfl ?_
                                         refine al_skip' ⟨_, rfl, .inl (up_m rfl (u2 rfl hb_59))⟩ rfl ?_
                                         refine al_ro' (ro_pickT (u4 rfl hb_59) ev_c) trivial rfl ?_
                                         refine al_end (fun e_60 he_60 => ?_)
                                         have s3_60 := ef 3 he_60 (u8 rfl s3_57)
                                         have s4_60 := ef 4 he_60 (u8 rfl s4_57)
                                         have s5_60 := ef 5 he_60 (u8 rfl s5_57)
                                         have s9_60 := ef 9 he_60 (u8 rfl s9_57)
                                         have s12_60 := ef 12 he_60 (u8 rfl s12_57)
                                         have s13_60 := ef 13 he_60 (u8 rfl s13_57)
                                         have s14_60 := ef 14 he_60 (u8 rfl s14_57)
                                         have s137_60 := ef 137 he_60 up_h
                                         clear he_60
                                         refine then_n ⟨(s137_60).trans (by (first | rfl | (refine avb ?_; simp [hsl]; done) | (refine avb ?_; simp; omega))), (s3_60).trans (s3_57).symm, (s4_60).trans (s4_57).symm, (s5_60).trans (s5_57).symm, (s9_60).trans (s9_57).symm, (s12_60).trans (s12_57).symm, (s13_60).trans (s13_57).symm, (s14_60).trans (s14_57).symm, rfl⟩)
                                    · (first | replace hq_59 := bnt hq_59 | replace hq_59 := bnf hq_59 | replace hq_59 := bt hq_59 | replace hq_59 := bf hq_59 | replace hq_59 := bt' hq_59 | replace hq_59 := bf' hq_59 | skip)
                                      first
                                      | (cases hq_59; done) | (exfalso; omega)
                                      | (
                                         refine al_ro' (ro_move (up_m rfl (u2 rfl s7_57))) ⟨_, rfl, hb_59⟩ rfl ?_
                                         refine al_ro' (ro_move (u4 rfl s14_57)) ⟨_, rfl, (up_m rfl hb_59)⟩ rfl ?_
                                         refine al_ro' (ro_call (evL_cons (up_m rfl up_h) (evL_cons up_h evL_nil)) rfl (ints_ok _ _ (by omega) (by omega)) k37_hcf22) ⟨_, rfl, (u2 rfl hb_59)⟩ rfl ?_
                                         refine al_ro' (ro_not up_h) ⟨_, rfl, (up_m rfl (u2 rfl hb_59))⟩ rfl ?_
                                         refine al_ro' (ro_pickF (u4 rfl hb_59) up_h) trivial rfl ?_
                                         refine al_end (fun e_61 he_61 => ?_)
                                         have s3_61 := ef 3 he_61 (u8 rfl s3_57)
                                         have s4_61 := ef 4 he_61 (u8 rfl s4_57)
                                         have s5_61 := ef 5 he_61 (u8 rfl s5_57)
                                         have s9_61 := ef 9 he_61 (u8 rfl s9_57)
                                         have s12_61 := ef 12 he_61 (u8 rfl s12_57)
                                         have s13_61 := ef 13 he_61 (u8 rfl s13_57)
                                         have s14_61 := ef 14 he_61 (u8 rfl s14_57)
                                         have s137_61 := ef 137 he_61 up_h
                                         clear he_61
                                         refine then_n ⟨(s137_61).trans (by (first | rfl | (refine avb ?_; simp [hsl]; done) | (refine avb ?_; simp; omega))), (s3_61).trans (s3_57).symm, (s4_61).trans (s4_57).symm, (s5_61).trans (s5_57).symm, (s9_61).trans (s9_57).symm, (s12_61).trans (s12_57).symm, (s13_61).trans (s13_57).symm, (s14_61).trans (s14_57).symm, rfl⟩)
                                  · rintro e_58 _ ⟨s137_58, k3_58, k4_58, k5_58, k9_58, k12_58, k13_58, k14_58, rfl⟩
                                    have s3_58 := k3_58.trans s3_57
                                    have s4_58 := k4_58.trans s4_57
                                    have s5_58 := k5_58.trans s5_57
                                    have s9_58 := k9_58.trans s9_57
                                    have s12_58 := k12_58.trans s12_57
                                    have s13_58 := k13_58.trans s13_57
                                    have s14_58 := k14_58.trans s14_57
                                    refine aw_case s137_58 (fun hq_62 => ?_) (fun hq_62 => ?_)
                                    · (first | replace hq_62 := bnt hq_62 | replace hq_62 := bnf hq_62 | replace hq_62 := bt hq_62 | replace hq_62 := bf hq_62 | replace hq_62 := bt' hq_62 | replace hq_62 := bf' hq_62 | skip)
                                      first
                                      | (cases hq_62; done) | (exfalso; omega)
                                      | (
                                         refine aw_seq ?_
                                         refine aw_text (by kernel_rfl) ?_
                                         refine al_ro' (ro_assign ev_c) trivial rfl ?_
                                         refine al_end (fun e_63 he_63 => ?_)
                                         have s6_63 := ef 6 he_63 up_h
                                         clear he_63 s12_58 s137_58 s13_58 s14_58 s3_58 s4_58 s5_58 s9_58
                                         refine then_n ?_
                                         refine aw_ret ?_
                                         refine then_r ?_
                                         refine ret1 (.inr rfl) (by kernel_rfl) (resV_tmp s6_63) (.ro _ rfl) ?_
                                         clear s6_63 mo2_3 mo1_3 mo0_3 ml_3
                                         (first | rfl | (refine avb ?_; simp only [decide_eq_true_eq, Bool.false_eq_true, true_iff, false_iff, iff_false, iff_true]; omega) | (simp; omega)))
                                    · (first | replace hq_62 := bnt hq_62 | replace hq_62 := bnf hq_62 | replace hq_62 := bt hq_62 | replace hq_62 := bf hq_62 | replace hq_62 := bt' hq_62 | replace hq_62 := bf' hq_62 | skip)
                                      first
                                      | (cases hq_62; done) | (exfalso; omega)
                                      | (
                                         refine aw_skip ?_
                                         refine then_n ?_
                                         refine aw_seq ?_
                                         refine aw_seq ?_
                                         refine aw_cut (fun e mem => (evA e (.tmp 150) = .v (.bool false)) ∧ (evA e (.tmp 3) = evA e_58 (.tmp 3)) ∧ (evA e (.tmp 4) = evA e_58 (.tmp 4)) ∧ (evA e (.tmp 5) = evA e_58 (.tmp 5)) ∧ (evA e (.tmp 9) = evA e_58 (.tmp 9)) ∧ (evA e (.tmp 13) = evA e_58 (.tmp 13)) ∧ m_3 = mem) ?_ ?_
                                         ·
                                           refine aw_text (by kernel_rfl) ?_
                                           refine al_ro' (ro_move s14_58) trivial rfl ?_
                                           refine al_ro' (ro_eq (ro_len_row up_h rfl k37_sl30.1) (by first | (simp only [lnS] <;> rfl) | rfl)) trivial rfl ?_
                                           refine al_ro' (ro_gtr up_h ev_c) trivial rfl ?_
                                           refine al_ro' (ro_move up_h) trivial rfl ?_
                                           refine al_case up_h (fun hb_65 hq_65 => ?_) (fun hb_65 hq_65 => ?_)
                                           · (first | replace hq_65 := bnt hq_65 | replace hq_65 := bnf hq_65 | replace hq_65 := bt hq_65 | replace hq_65 := bf hq_65 | replace hq_65 := bt' hq_65 | replace hq_65 := bf' hq_65 | skip)
                                             first
                                             | (cases hq_65; done) | (exfalso; omega)
                                             | (
                                                refine al_ro' (ro_move (u4 rfl s13_58)) ⟨_, rfl, hb_65⟩ rfl ?_
                                                refine al_ro' (ro_not up_h) ⟨_, rfl, (up_m rfl hb_65)⟩ rfl ?_
                                                refine al_ro' (ro_move up_h) ⟨_, rfl, (u2 rfl hb_65)⟩ rfl ?_
                                                refine al_case up_h (fun hb_66 hq_66 => ?_) (fun hb_66 hq_66 => ?_)
                                                · (first | replace hq_66 := bnt hq_66 | replace hq_66 := bnf hq_66 | replace hq_66 := bt hq_66 | replace hq_66 := bf hq_66 | replace hq_66 := bt' hq_66 | replace hq_66 := bf' hq_66 | skip)
                                                  first
                                                  | (cases hq_66; done) | (exfalso; omega)
                                                  | (
                                                     refine al_skip' ⟨_, rfl, .inl hb_66⟩ rfl ?_
                                                     refine al_skip' ⟨_, rfl, .inl (up_m rfl hb_66)⟩ rfl ?_
                                                     refine al_skip' ⟨_, rfl, .inl (u2 rfl hb_66)⟩ rfl ?_
                                                     refine al_skip' ⟨_, rfl, .inl (up_m rfl (u2 rfl hb_66))⟩ rfl ?_
                                                     refine al_ro' (ro_pickT (u4 rfl hb_66) ev_c) ⟨_, rfl, (up_m rfl (u2 rfl (u4 rfl hb_65)))⟩ rfl ?_
                                                     refine al_ro' (ro_pickT (u8 rfl hb_65) up_h) trivial rfl ?_
                                                     refine al_end (fun e_67 he_67 => ?_)
                                                     have s3_67 := ef 3 he_67 (up_m rfl (u4 rfl (u8 rfl s3_58)))
                                                     have s4_67 := ef 4 he_67 (up_m rfl (u4 rfl (u8 rfl s4_58)))
                                                     have s5_67 := ef 5 he_67 (up_m rfl (u4 rfl (u8 rfl s5_58)))
                                                     have s9_67 := ef 9 he_67 (up_m rfl (u4 rfl (u8 rfl s9_58)))
                                                     have s13_67 := ef 13 he_67 (up_m rfl (u4 rfl (u8 rfl s13_58)))
                                                     have s150_67 := ef 150 he_67 up_h
                                                     clear he_67
                                                     refine then_n ⟨(s150_67).trans (by (first | rfl | (refine avb ?_; simp only [decide_eq_true_eq, Bool.false_eq_true, true_iff, false_iff, iff_false, iff_true]; omega))), (s3_67).trans (s3_58).symm, (s4_67).trans (s4_58).symm, (s5_67).trans (s5_58).symm, (s9_67).trans (s9_58).symm, (s13_67).trans (s13_58).symm, rfl⟩)
                                                · (first | replace hq_66 := bnt hq_66 | replace hq_66 := bnf hq_66 | replace hq_66 := bt hq_66 | replace hq_66 := bf hq_66 | replace hq_66 := bt' hq_66 | replace hq_66 := bf' hq_66 | skip)
                                                  first
                                                  | (cases hq_66; done) | (exfalso; omega)
                                                  | (
                                                     refine al_ro' (ro_fld_ptr k37_fl42_1 rfl (up_m rfl (u2 rfl (u4 rfl s5_58)))) ⟨_, rfl, hb_66⟩ rfl ?_
                                                     refine al_ro' (ro_eq (ro_ld_ptr k37_ty3 rfl mo2_3 up_h (by first | exact Nat.le_of_ble_eq_true rfl | omega | (simp only [lnS] <;> omega) | (simp <;> omega))) (by first | (simp only [packA_t, packA_f, iE, bE, setAt, cellsA, Value.cells, map_vc, map_vn, Nat.reduceAdd, qS] <;> rfl) | rfl)) ⟨_, rfl, (up_m rfl hb_66)⟩ rfl ?_
                                                     refine al_ro' (ro_move (up_m rfl (u8 rfl s12_58))) ⟨_, rfl, (u2 rfl hb_66)⟩ rfl ?_
                                                     refine al_ro' (ro_gtr (up_m rfl up_h) up_h) ⟨_, rfl, (up_m rfl (u2 rfl hb_66))⟩ rfl ?_
                                                     refine al_ro' (ro_pickF (u4 rfl hb_66) up_h) ⟨_, rfl, (up_m rfl (u2 rfl (u4 rfl hb_65)))⟩ rfl ?_
                                                     refine al_ro' (ro_pickT (u8 rfl hb_65) up_h) trivial rfl ?_
                                                     refine al_end (fun e_68 he_68 => ?_)
                                                     have s3_68 := ef 3 he_68 (up_m rfl (u4 rfl (u8 rfl s3_58)))
                                                     have s4_68 := ef 4 he_68 (up_m rfl (u4 rfl (u8 rfl s4_58)))
                                                     have s5_68 := ef 5 he_68 (up_m rfl (u4 rfl (u8 rfl s5_58)))
                                                     have s9_68 := ef 9 he_68 (up_m rfl (u4 rfl (u8 rfl s9_58)))
                                                     have s13_68 := ef 13 he_68 (up_m rfl (u4 rfl (u8 rfl s13_58)))
                                                     have s150_68 := ef 150 he_68 up_h
                                                     clear he_68
                                                     refine then_n ⟨(s150_68).trans (by (first | rfl | (refine avb ?_; simp only [decide_eq_true_eq, Bool.false_eq_true, true_iff, false_iff, iff_false, iff_true]; omega))), (s3_68).trans (s3_58).symm, (s4_68).trans (s4_58).symm, (s5_68).trans (s5_58).symm, (s9_68).trans (s9_58).symm, (s13_68).trans (s13_58).symm, rfl⟩))
                                           · (first | replace hq_65 := bnt hq_65 | replace hq_65 := bnf hq_65 | replace hq_65 := bt hq_65 | replace hq_65 := bf hq_65 | replace hq_65 := bt' hq_65 | replace hq_65 := bf' hq_65 | skip)
                                             first
                                             | (cases hq_65; done) | (exfalso; omega)
                                             | (
                                                refine al_skip' ⟨_, rfl, .inl hb_65⟩ rfl ?_
                                                refine al_skip' ⟨_, rfl, .inl (up_m rfl hb_65)⟩ rfl ?_
                                                refine al_skip' ⟨_, rfl, .inl (u2 rfl hb_65)⟩ rfl ?_
                                                refine al_skip' ⟨_, rfl, .inr up_h⟩ rfl ?_
                                                refine al_skip' ⟨_, rfl, .inr (up_m rfl up_h)⟩ rfl ?_
                                                refine al_skip' ⟨_, rfl, .inr (u2 rfl up_h)⟩ rfl ?_
                                                refine al_skip' ⟨_, rfl, .inr (up_m rfl (u2 rfl up_h))⟩ rfl ?_
                                                refine al_skip' ⟨_, rfl, .inl (up_m rfl (u2 rfl (u4 rfl hb_65)))⟩ rfl ?_
                                                refine al_ro' (ro_pickF (u8 rfl hb_65) ev_c) trivial rfl ?_
                                                refine al_end (fun e_69 he_69 => ?_)
                                                have s3_69 := ef 3 he_69 (up_m rfl (u4 rfl (u8 rfl s3_58)))
                                                have s4_69 := ef 4 he_69 (up_m rfl (u4 rfl (u8 rfl s4_58)))
                                                have s5_69 := ef 5 he_69 (up_m rfl (u4 rfl (u8 rfl s5_58)))
                                                have s9_69 := ef 9 he_69 (up_m rfl (u4 rfl (u8 rfl s9_58)))
                                                have s13_69 := ef 13 he_69 (up_m rfl (u4 rfl (u8 rfl s13_58)))
                                                have s150_69 := ef 150 he_69 up_h
                                                clear he_69
                                                refine then_n ⟨(s150_69).trans (by (first | rfl | (refine avb ?_; simp only [decide_eq_true_eq, Bool.false_eq_true, true_iff, false_iff, iff_false, iff_true]; omega))), (s3_69).trans (s3_58).symm, (s4_69).trans (s4_58).symm, (s5_69).trans (s5_58).symm, (s9_69).trans (s9_58).symm, (s13_69).trans (s13_58).symm, rfl⟩)
                                         · rintro e_64 _ ⟨s150_64, k3_64, k4_64, k5_64, k9_64, k13_64, rfl⟩
                                           have s3_64 := k3_64.trans s3_58
                                           have s4_64 := k4_64.trans s4_58
                                           have s5_64 := k5_64.trans s5_58
                                           have s9_64 := k9_64.trans s9_58
                                           have s13_64 := k13_64.trans s13_58
                                           refine aw_case s150_64 (fun hq_70 => ?_) (fun hq_70 => ?_)
                                           · (first | replace hq_70 := bnt hq_70 | replace hq_70 := bnf hq_70 | replace hq_70 := bt hq_70 | replace hq_70 := bf hq_70 | replace hq_70 := bt' hq_70 | replace hq_70 := bf' hq_70 | skip)
                                             first
                                             | (cases hq_70; done) | (exfalso; omega)
                                             | (
                                                refine aw_seq ?_
                                                refine aw_text (by kernel_rfl) ?_
                                                refine al_ro' (ro_assign ev_c) trivial rfl ?_
                                                refine al_end (fun e_71 he_71 => ?_)
                                                have s6_71 := ef 6 he_71 up_h
                                                clear he_71 s13_64 s150_64 s3_64 s4_64 s5_64 s9_64
                                                refine then_n ?_
                                                refine aw_ret ?_
                                                refine then_r ?_
                                                refine ret1 (.inr rfl) (by kernel_rfl) (resV_tmp s6_71) (.ro _ rfl) ?_
                                                clear s6_71 mo2_3 mo1_3 mo0_3 ml_3
                                                (first | rfl | (refine avb ?_; simp only [decide_eq_true_eq, Bool.false_eq_true, true_iff, false_iff, iff_false, iff_true]; omega) | (simp; omega)))
                                           · (first | replace hq_70 := bnt hq_70 | replace hq_70 := bnf hq_70 | replace hq_70 := bt hq_70 | replace hq_70 := bf hq_70 | replace hq_70 := bt' hq_70 | replace hq_70 := bf' hq_70 | skip)
                                             first
                                             | (cases hq_70; done) | (exfalso; omega)
                                             | (
                                                refine aw_skip ?_
                                                refine then_n ?_
                                                refine aw_seq ?_
                                                refine aw_seq ?_
                                                refine aw_text (by kernel_rfl) ?_
                                                refine al_ro' (ro_move s13_64) trivial rfl ?_
                                                refine al_ro' (ro_not up_h) trivial rfl ?_
                                                refine al_end (fun e_72 he_72 => ?_)
                                                have s3_72 := ef 3 he_72 (u2 rfl s3_64)
                                                have s4_72 := ef 4 he_72 (u2 rfl s4_64)
                                                have s5_72 := ef 5 he_72 (u2 rfl s5_64)
                                                have s9_72 := ef 9 he_72 (u2 rfl s9_64)
                                                have s152_72 := ef 152 he_72 up_h
                                                clear he_72 s13_64 s150_64 s3_64 s4_64 s5_64 s9_64
                                                refine then_n ?_
                                                refine aw_case s152_72 (fun hq_73 => ?_) (fun hq_73 => ?_)
                                                · (first | replace hq_73 := bnt hq_73 | replace hq_73 := bnf hq_73 | replace hq_73 := bt hq_73 | replace hq_73 := bf hq_73 | replace hq_73 := bt' hq_73 | replace hq_73 := bf' hq_73 | skip)
                                                  first
                                                  | (cases hq_73; done) | (exfalso; omega)
                                                  | (
                                                     refine aw_seq ?_
                                                     refine aw_text (by kernel_rfl) ?_
                                                     refine al_ro' (ro_assign ev_c) trivial rfl ?_
                                                     refine al_end (fun e_74 he_74 => ?_)
                                                     have s6_74 := ef 6 he_74 up_h
                                                     clear he_74 s152_72 s3_72 s4_72 s5_72 s9_72
                                                     refine then_n ?_
                                                     refine aw_ret ?_
                                                     refine then_r ?_
                                                     refine ret1 (.inr rfl) (by kernel_rfl) (resV_tmp s6_74) (.ro _ rfl) ?_
                                                     clear s6_74 mo2_3 mo1_3 mo0_3 ml_3
                                                     (first | rfl | (refine avb ?_; simp only [decide_eq_true_eq, Bool.false_eq_true, true_iff, false_iff, iff_false, iff_true]; omega) | (simp; omega)))
                                                · (first | replace hq_73 := bnt hq_73 | replace hq_73 := bnf hq_73 | replace hq_73 := bt hq_73 | replace hq_73 := bf hq_73 | replace hq_73 := bt' hq_73 | replace hq_73 := bf' hq_73 | skip)
                                                  first
                                                  | (cases hq_73; done) | (exfalso; omega)
                                                  | (
                                                     (have hn2 : gnN nm ps b d v post = gaW ps b d post := (by omega); have hst2 : stE nm ps b d v post (gnN nm ps b d v post) = 0 := (by rw [stE_d, if_pos hd0]; exact stateE_in hw (by omega)); have hz : 0 < (rcW ps b d post (gnN nm ps b d v post)).length := (by rw [hn2]; omega))
                                                     refine aw_skip ?_
                                                     refine then_n ?_
                                                     refine aw_seq ?_
                                                     refine aw_draw 13 (by kernel_rfl) (by kernel_rfl) (by kernel_rfl) (by kernel_rfl) ?_
                                                     refine ds_ro' (ro_eq (ro_ld_ptr k37_ty24 rfl mo0_3 s3_72 (by first | exact Nat.le_of_ble_eq_true rfl | omega | (simp only [lnS] <;> omega) | (simp <;> omega))) (by first | (simp only [packA_t, packA_f, iE, bE, setAt, cellsA, Value.cells, map_vc, map_vn, Nat.reduceAdd, qS] <;> rfl) | rfl)) trivial rfl ?_
                                                     refine ds_ro' (ro_call (evL_cons up_h evL_nil) rfl (rCopy_ok nm ps (by omega)) k37_hcf18) trivial rfl ?_
                                                     refine ds_ro' (ro_eq (ro_ld_ptr k37_ty26 rfl mo1_3 (u2 rfl s4_72) (by first | exact Nat.le_of_ble_eq_true rfl | omega | (simp only [lnS] <;> omega) | (simp <;> omega))) (by first | (simp only [packA_t, packA_f, iE, bE, setAt, cellsA, Value.cells, map_vc, map_vn, Nat.reduceAdd, qS] <;> rfl) | rfl)) trivial rfl ?_
                                                     refine ds_ro' (ro_fld_ptr k37_fl42_0 rfl (up_m rfl (u2 rfl s5_72))) trivial rfl ?_
                                                     refine ds_ro' (ro_eq (ro_ld_ptr k37_ty3 rfl mo2_3 up_h (by first | exact Nat.le_of_ble_eq_true rfl | omega | (simp only [lnS] <;> omega) | (simp <;> omega))) (by first | (simp only [packA_t, packA_f, iE, bE, setAt, cellsA, Value.cells, map_vc, map_vn, Nat.reduceAdd, qS] <;> rfl) | rfl)) trivial rfl ?_
                                                     refine ds_ro' (ro_move (up_m rfl (u4 rfl s9_72))) trivial rfl ?_
                                                     refine ds_ro' (ro_build (evP_cons (up_m rfl up_h) (evP_cons up_h evP_nil)) k37_bz42 k37_bu42 k37_bp42 rfl) trivial rfl ?_
                                                     refine ds_ro' (ro_call (evL_cons (up_m rfl (u4 rfl up_h)) (evL_cons (u4 rfl up_h) (evL_cons up_h evL_nil))) rfl (stops2_ok (by omega) (by omega) hst2) k37_hcf43) trivial rfl ?_
                                                     refine ds_ro' (ro_move up_h) trivial rfl ?_
                                                     refine ds_ro' (ro_extract up_h rfl) trivial rfl ?_
                                                     refine ds_ro' (ro_extract (up_m rfl up_h) rfl) trivial rfl ?_
                                                     refine ds_ro' (ro_assign (up_m rfl up_h)) trivial rfl ?_
                                                     refine ds_ro' (ro_assign (up_m rfl up_h)) trivial rfl ?_
                                                     refine ds_nil ?_
                                                     refine al_end (fun e_75 he_75 => ?_)
                                                     have s15_75 := ef 15 he_75 (up_m rfl up_h)
                                                     have s16_75 := ef 16 he_75 up_h
                                                     clear he_75 s152_72 s3_72 s4_72 s5_72 s9_72
                                                     refine then_n ?_
                                                     refine aw_seq ?_
                                                     refine aw_text (by kernel_rfl) ?_
                                                     refine al_ro' (ro_move s16_75) trivial rfl ?_
                                                     refine al_ro' (ro_eql up_h ev_c) trivial rfl ?_
                                                     refine al_ro' (ro_move up_h) trivial rfl ?_
                                                     refine al_case up_h (fun hb_76 hq_76 => ?_) (fun hb_76 hq_76 => ?_)
                                                     · (first | replace hq_76 := bnt hq_76 | replace hq_76 := bnf hq_76 | replace hq_76 := bt hq_76 | replace hq_76 := bf hq_76 | replace hq_76 := bt' hq_76 | replace hq_76 := bf' hq_76 | skip)
                                                       first
                                                       | (cases hq_76; done) | (exfalso; omega)
                                                       | (
                                                          refine al_ro' (ro_move (up_m rfl (u2 rfl s15_75))) ⟨_, rfl, hb_76⟩ rfl ?_
                                                          refine al_ro' (ro_eq (ro_len_row up_h rfl k37_sl30.1) (by first | (simp only [lnS] <;> rfl) | rfl)) ⟨_, rfl, (up_m rfl hb_76)⟩ rfl ?_
                                                          refine al_ro' (ro_gtr up_h ev_c) ⟨_, rfl, (u2 rfl hb_76)⟩ rfl ?_
                                                          refine al_ro' (ro_pickT (up_m rfl (u2 rfl hb_76)) up_h) trivial rfl ?_
                                                          refine al_ro' (ro_assign up_h) trivial rfl ?_
                                                          refine al_end (fun e_77 he_77 => ?_)
                                                          have s6_77 := ef 6 he_77 up_h
                                                          clear he_77 hb_76 s15_75 s16_75
                                                          refine then_n ?_
                                                          refine aw_ret ?_
                                                          refine ret1 (.inr rfl) (by kernel_rfl) (resV_tmp s6_77) (.ro _ rfl) ?_
                                                          clear s6_77 mo2_3 mo1_3 mo0_3 ml_3
                                                          (first | rfl | (refine avb ?_; simp only [decide_eq_true_eq, Bool.false_eq_true, true_iff, false_iff, iff_false, iff_true]; omega) | (simp; omega)))
                                                     · (first | replace hq_76 := bnt hq_76 | replace hq_76 := bnf hq_76 | replace hq_76 := bt hq_76 | replace hq_76 := bf hq_76 | replace hq_76 := bt' hq_76 | replace hq_76 := bf' hq_76 | skip)
                                                       first
                                                       | (cases hq_76; done) | (exfalso; omega)
                                                       | (
                                                          refine al_skip' ⟨_, rfl, .inl hb_76⟩ rfl ?_
                                                          refine al_skip' ⟨_, rfl, .inl (up_m rfl hb_76)⟩ rfl ?_
                                                          refine al_skip' ⟨_, rfl, .inl (u2 rfl hb_76)⟩ rfl ?_
                                                          refine al_ro' (ro_pickF (up_m rfl (u2 rfl hb_76)) ev_c) trivial rfl ?_
                                                          refine al_ro' (ro_assign up_h) trivial rfl ?_
                                                          refine al_end (fun e_78 he_78 => ?_)
                                                          have s6_78 := ef 6 he_78 up_h
                                                          clear he_78 hb_76 s15_75 s16_75
                                                          refine then_n ?_
                                                          refine aw_ret ?_
                                                          refine ret1 (.inr rfl) (by kernel_rfl) (resV_tmp s6_78) (.ro _ rfl) ?_
                                                          clear s6_78 mo2_3 mo1_3 mo0_3 ml_3
                                                          (first | rfl | (refine avb ?_; simp only [decide_eq_true_eq, Bool.false_eq_true, true_iff, false_iff, iff_false, iff_true]; omega) | (simp; omega))))))))))))
end Go.Proofs.Ytelgkjekpcfffaa
