/- The law of the top on tracks one behind the other. No conditions on a program. -/
import Derived.Test.YtgiiedpambimoaaK44
namespace Go.Proofs.Ytgiiedpambimoaa
open Go Go.RowKit Go.Proofs
set_option linter.unusedSimpArgs false
set_option linter.unusedVariables false
theorem k45_az42 : (Try.prog.info? 42).bind (·.zero) = some (.agg #[.int .i64 0, .int .i64 0]) := by kernel_rfl
theorem k45_az51 : (Try.prog.info? 51).bind (·.zero) = some (.agg #[.string ByteArray.empty, .slice none 0 0]) := by kernel_rfl
theorem k45_bz42 : (Try.prog.info? 42).bind (·.zero) = some (.agg #[.int .i64 0, .int .i64 0]) := by kernel_rfl
theorem k45_bu42 : Try.prog.underlying 42 = some (.struct (fsOf Try.prog 42)) := by kernel_rfl
theorem k45_bp42 : ∀ w, ((fsOf Try.prog 42).mapM fun f => Prod.mk f.offset <$> sizeOf f.type : Sem (Array (Nat × Nat))).run Try.prog w = .ok (#[(0, 1), (1, 1)]) w := fun _ => by kernel_rfl
theorem k45_bz68 : (Try.prog.info? 68).bind (·.zero) = some (.agg #[.int .i64 0, .int .i64 0]) := by kernel_rfl
theorem k45_bu68 : Try.prog.underlying 68 = some (.struct (fsOf Try.prog 68)) := by kernel_rfl
theorem k45_bp68 : ∀ w, ((fsOf Try.prog 68).mapM fun f => Prod.mk f.offset <$> sizeOf f.type : Sem (Array (Nat × Nat))).run Try.prog w = .ok (#[(0, 1), (1, 1)]) w := fun _ => by kernel_rfl
theorem k45_fl42_0 : FldIs Try.prog 42 0 0 false 1 := by unfold FldIs; kernel_rfl
theorem k45_fl42_1 : FldIs Try.prog 42 1 1 false 1 := by unfold FldIs; kernel_rfl
theorem k45_fl51_1 : FldIs Try.prog 51 1 1 false 1 := by unfold FldIs; kernel_rfl
theorem k45_fl68_0 : FldIs Try.prog 68 0 0 false 1 := by unfold FldIs; kernel_rfl
theorem k45_fl68_1 : FldIs Try.prog 68 1 1 false 1 := by unfold FldIs; kernel_rfl
theorem k45_fl70_0 : FldIs Try.prog 70 0 0 true 3 := by unfold FldIs; kernel_rfl
theorem k45_fl70_1 : FldIs Try.prog 70 1 3 true 2 := by unfold FldIs; kernel_rfl
theorem k45_fl70_2 : FldIs Try.prog 70 2 5 false 1 := by unfold FldIs; kernel_rfl
theorem k45_fl70_3 : FldIs Try.prog 70 3 6 false 1 := by unfold FldIs; kernel_rfl
theorem k45_hcf21 : ∀ args w, (callFunc 21 args).run Try.prog w = .ok (.enter 21 args) w := fun _ _ => by kernel_rfl
theorem k45_hcf23 : ∀ args w, (callFunc 23 args).run Try.prog w = .ok (.enter 23 args) w := fun _ _ => by kernel_rfl
theorem k45_hcf24 : ∀ args w, (callFunc 24 args).run Try.prog w = .ok (.enter 24 args) w := fun _ _ => by kernel_rfl
theorem k45_hcf25 : ∀ args w, (callFunc 25 args).run Try.prog w = .ok (.enter 25 args) w := fun _ _ => by kernel_rfl
theorem k45_hcf27 : ∀ args w, (callFunc 27 args).run Try.prog w = .ok (.enter 27 args) w := fun _ _ => by kernel_rfl
theorem k45_hcf28 : ∀ args w, (callFunc 28 args).run Try.prog w = .ok (.enter 28 args) w := fun _ _ => by kernel_rfl
theorem k45_hcf29 : ∀ args w, (callFunc 29 args).run Try.prog w = .ok (.enter 29 args) w := fun _ _ => by kernel_rfl
theorem k45_hcf30 : ∀ args w, (callFunc 30 args).run Try.prog w = .ok (.enter 30 args) w := fun _ _ => by kernel_rfl
theorem k45_hcf31 : ∀ args w, (callFunc 31 args).run Try.prog w = .ok (.enter 31 args) w := fun _ _ => by kernel_rfl
theorem k45_hcf32 : ∀ args w, (callFunc 32 args).run Try.prog w = .ok (.enter 32 args) w := fun _ _ => by kernel_rfl
theorem k45_hcf33 : ∀ args w, (callFunc 33 args).run Try.prog w = .ok (.enter 33 args) w := fun _ _ => by kernel_rfl
theorem k45_hcf34 : ∀ args w, (callFunc 34 args).run Try.prog w = .ok (.enter 34 args) w := fun _ _ => by kernel_rfl
theorem k45_hcf35 : ∀ args w, (callFunc 35 args).run Try.prog w = .ok (.enter 35 args) w := fun _ _ => by kernel_rfl
theorem k45_hcf36 : ∀ args w, (callFunc 36 args).run Try.prog w = .ok (.enter 36 args) w := fun _ _ => by kernel_rfl
theorem k45_sl22 : SlIs Try.prog 22 3 1 8 (.int .i64 0) := ⟨by kernel_rfl, by kernel_rfl, by kernel_rfl⟩
theorem k45_sl49 : SlIs Try.prog 49 118 4 32 (.agg #[.int .i64 0, .int .i64 0, .int .i64 0, .bool false]) := ⟨by kernel_rfl, by kernel_rfl, by kernel_rfl⟩
theorem k45_gq42 : Try.prog.eqGuardType Try.prog.depth 42 = false := by kernel_rfl
theorem k45_sq42 {a0 b0 : Int} {a1 b1 : Int} : EqV Try.prog 2 42 (.agg #[.int .i64 a0, .int .i64 a1]) (.agg #[.int .i64 b0, .int .i64 b1]) (decide (a0 = b0) && (decide (a1 = b1) && true)) := (eqs_struct [(3, 0), (3, 1)] (by kernel_rfl) (by kernel_rfl) (by kernel_rfl) (by kernel_rfl) (.cons (fun _ => by kernel_rfl) (fun _ => by kernel_rfl) (eqv_int (k := .i64) (k' := .i64) (by kernel_rfl) a0 b0) (.cons (fun _ => by kernel_rfl) (fun _ => by kernel_rfl) (eqv_int (k := .i64) (k' := .i64) (by kernel_rfl) a1 b1) .nil)))
theorem k45_sz42 : (Try.prog.info? 42).map (·.size) = some 2 := by kernel_rfl
theorem k45_sz51 : (Try.prog.info? 51).map (·.size) = some 2 := by kernel_rfl
theorem k45_ty22 : TyIs Try.prog 22 false 1 := ⟨by kernel_rfl, by kernel_rfl⟩
theorem k45_ty3 : TyIs Try.prog 3 false 1 := ⟨by kernel_rfl, by kernel_rfl⟩
theorem k45_ty42 : TyIs Try.prog 42 true 2 := ⟨by kernel_rfl, by kernel_rfl⟩
theorem k45_ty49 : TyIs Try.prog 49 false 1 := ⟨by kernel_rfl, by kernel_rfl⟩
theorem k45_ty51 : TyIs Try.prog 51 true 2 := ⟨by kernel_rfl, by kernel_rfl⟩
theorem k45_ty53 : TyIs Try.prog 53 true 3 := ⟨by kernel_rfl, by kernel_rfl⟩
theorem k45_ty68 : TyIs Try.prog 68 true 2 := ⟨by kernel_rfl, by kernel_rfl⟩

theorem dr_m {α : Type} (f : α → List AV) (l : List α) (a : Nat) : (l.map f).drop a = (l.drop a).map f := List.map_drop.symm
theorem tk_m {α : Type} (f : α → List AV) (l : List α) (a : Nat) : (l.map f).take a = (l.take a).map f := List.map_take.symm
theorem intsJ_ok {ps qs : List Piece} {b : Int} {p k m : Nat} (hp : 1 ≤ p) (hk : k = 1) (hm : m = ps.length + 1) (hl : p ≤ 1000) : FnOk Try.prog 35 [.row 1 (((bwL qs b 0 p).map iE).drop k), .row 1 (((bwL (ps ++ qs) b 0 (ps.length + p)).map iE).drop m)] (fun q => q = bA true) := by
  subst hk hm
  rw [dr_m, dr_m]
  exact intsD_ok (bwL_drop hp) (by rw [List.length_drop, bwL_len]; omega)
theorem copyT_ok {xs : List Int} (hx : xs.length ≤ 1000) {k m : Nat} (h : k = m) : FnOk Try.prog 23 [.row 1 ((xs.map iE).take k)] (fun q => q = .row 1 ((xs.take m).map iE)) := by
  subst h
  rw [tk_m]
  exact copyInts_ok (xs := xs.take k) (by rw [List.length_take]; omega)
theorem copyD_ok {xs : List Int} (hx : xs.length ≤ 1000) {k m : Nat} (h : k = m) : FnOk Try.prog 23 [.row 1 ((xs.map iE).drop k)] (fun q => q = .row 1 ((xs.drop m).map iE)) := by
  subst h
  rw [dr_m]
  exact copyInts_ok (xs := xs.drop k) (by rw [List.length_drop]; omega)
theorem runW_le (ps : List Piece) (b d stop post sq : Int) : (runW ps b d stop post sq).1.length ≤ (stop - post).toNat + 1 := by
  unfold runW
  split
  · simp
  · split
    · simp
    · rename_i h; exact Nat.le_of_eq (goL_len h)
/-- The time of both, in every case. -/
def jT (ps qs : List Piece) (xs : List Int) : (Int × Int) × Int := if (timW ps (xs.take (ps.length + 1))).2 = 0 ∧ (timW qs (xs.drop ps.length)).2 = 0 then (((timW ps (xs.take (ps.length + 1))).1.1 + (timW qs (xs.drop ps.length)).1.1, (timW ps (xs.take (ps.length + 1))).1.2 + (timW qs (xs.drop ps.length)).1.2), 0) else ((0, 0), 11)
theorem timW_jT (ps qs : List Piece) (xs : List Int) : timW (ps ++ qs) xs = jT ps qs xs := by
  unfold jT
  split
  · exact (timW_join ps qs xs).1 ‹_›
  · exact (timW_join ps qs xs).2 ‹_›
theorem timeJ3_ok {na : ByteArray} {ps qs : List Piece} {xs : List Int} (hs : na.size ≤ 1000000000) (hp : (ps ++ qs).length ≤ 1000000000) (hx : xs.length ≤ 1000000000) (h : (chk na (ps ++ qs)).2 = 0) (h1 : sqsE (ps ++ qs) xs = 0) :
    FnOk Try.prog 25 [trA na (ps ++ qs), .row 1 (xs.map iE)] (fun q => q = .tuple [.agg [iA (jT ps qs xs).1.1, iA (jT ps qs xs).1.2], iA (jT ps qs xs).2]) :=
  (timeOf0_ok hs hp hx h h1).mono fun q hq => hq.trans (by rw [timW_jT])
set_option maxRecDepth 100000 in
set_option maxHeartbeats 4000000 in
theorem together_ok (na : ByteArray) (ps : List Piece) (nb : ByteArray) (qs : List Piece) (b d v post sq stop : Int) (xs : List Int) : FnOk Try.prog 5 [trA na ps, trA nb qs, .agg [iA b, iA d, iA v, iA post, iA sq, iA stop, .row 1 (xs.map iE)]] (fun q => q = bA true) := by
  refine fnOk_of (fn := Try.f5) 279 (by kernel_rfl) rfl (by kernel_rfl) (Nat.le_of_ble_eq_true rfl) ?_
  intro e_0 m_0 hA hm_0
  have s0_0 : evA e_0 (.tmp 0) = _ := hA 0 _ rfl
  have s1_0 : evA e_0 (.tmp 1) = _ := hA 1 _ rfl
  have s2_0 : evA e_0 (.tmp 2) = _ := hA 2 _ rfl
  have ml_0 : m_0.length = 0 := by rw [hm_0]; rfl
  clear hA hm_0
  refine aw_seq ?_
  refine aw_text (by kernel_rfl) ?_
  refine al_stm (st_box s0_0 rfl ml_0) trivial rfl (fun m_1 hm_1 => ?_)
  have mo0_1 := m_push hm_1 ml_0
  (try simp only [packA_t, packA_f, iE, bE, setAt, cellsA, Value.cells, map_vc, map_vn, Nat.reduceAdd, qS, td_m, dr_m, tk_m] at mo0_1)
  have ml_1 := m_push_l hm_1 ml_0
  have ml_1 : _ = 1 := ml_1
  clear hm_1
  refine al_stm (st_box (up_m rfl s1_0) rfl ml_1) trivial rfl (fun m_2 hm_2 => ?_)
  have mo1_2 := m_push hm_2 ml_1
  (try simp only [packA_t, packA_f, iE, bE, setAt, cellsA, Value.cells, map_vc, map_vn, Nat.reduceAdd, qS, td_m, dr_m, tk_m] at mo1_2)
  have mo0_2 := m_push_o hm_2 mo0_1
  have ml_2 := m_push_l hm_2 ml_1
  have ml_2 : _ = 2 := ml_2
  clear hm_2 mo0_1
  refine al_stm (st_box (u2 rfl s2_0) rfl ml_2) trivial rfl (fun m_3 hm_3 => ?_)
  have mo2_3 := m_push hm_3 ml_2
  (try simp only [packA_t, packA_f, iE, bE, setAt, cellsA, Value.cells, map_vc, map_vn, Nat.reduceAdd, qS, td_m, dr_m, tk_m] at mo2_3)
  have mo1_3 := m_push_o hm_3 mo1_2
  have mo0_3 := m_push_o hm_3 mo0_2
  have ml_3 := m_push_l hm_3 ml_2
  have ml_3 : _ = 3 := ml_3
  clear hm_3 mo1_2 mo0_2
  refine al_ro' (ro_assign ev_c) trivial rfl ?_
  refine al_end (fun e_4 he_4 => ?_)
  have s3_4 := ef 3 he_4 (up_m rfl (u2 rfl up_h))
  have s4_4 := ef 4 he_4 (u2 rfl up_h)
  have s5_4 := ef 5 he_4 (up_m rfl up_h)
  clear he_4 s0_0 s1_0 s2_0
  refine then_n ?_
  refine aw_seq ?_
  refine aw_seq ?_
  refine aw_text (by kernel_rfl) ?_
  refine al_ro' (ro_call evL_nil rfl (bAwake_ok) k45_hcf27) trivial rfl ?_
  refine al_ro' (ro_not up_h) trivial rfl ?_
  refine al_end (fun e_5 he_5 => ?_)
  have s3_5 := ef 3 he_5 (u2 rfl s3_4)
  have s4_5 := ef 4 he_5 (u2 rfl s4_4)
  have s5_5 := ef 5 he_5 (u2 rfl s5_4)
  have s25_5 := ef 25 he_5 up_h
  clear he_5 s3_4 s4_4 s5_4
  refine then_n ?_
  refine aw_case s25_5 (fun hq_6 => ?_) (fun hq_6 => ?_)
  · (first | replace hq_6 := bnt hq_6 | replace hq_6 := bnf hq_6 | replace hq_6 := bt hq_6 | replace hq_6 := bf hq_6 | replace hq_6 := bt' hq_6 | replace hq_6 := bf' hq_6 | skip)
    first
    | (cases hq_6; done) | (exfalso; omega)
    | (
       refine aw_seq ?_
       refine aw_text (by kernel_rfl) ?_
       refine al_ro' (ro_assign ev_c) trivial rfl ?_
       refine al_end (fun e_7 he_7 => ?_)
       have s6_7 := ef 6 he_7 up_h
       clear he_7 s25_5 s3_5 s4_5 s5_5
       refine then_n ?_
       refine aw_ret ?_
       refine then_r ?_
       refine ret1 (.inr rfl) (by kernel_rfl) (resV_tmp s6_7) (.ro _ rfl) ?_
       clear s6_7 mo2_3 mo1_3 mo0_3 ml_3
       (first | rfl | (have hT : jT ps qs xs = ((0, 0), 11) := (by unfold jT; rw [if_neg (by omega)]); rw [hT]; rfl) | (have hT : jT ps qs xs = (((timW ps (xs.take (ps.length + 1))).1.1 + (timW qs (xs.drop ps.length)).1.1, (timW ps (xs.take (ps.length + 1))).1.2 + (timW qs (xs.drop ps.length)).1.2), 0) := (by unfold jT; rw [if_pos (by omega)]); first | (rw [hT]; simp; done) | (exfalso; have h0 : (jT ps qs xs).2 = 0 := congrArg Prod.snd hT; omega))))
  · (first | replace hq_6 := bnt hq_6 | replace hq_6 := bnf hq_6 | replace hq_6 := bt hq_6 | replace hq_6 := bf hq_6 | replace hq_6 := bt' hq_6 | replace hq_6 := bf' hq_6 | skip)
    first
    | (cases hq_6; done) | (exfalso; omega)
    | (
       refine aw_skip ?_
       refine then_n ?_
       refine aw_seq ?_
       refine aw_seq ?_
       refine aw_cut (fun e mem => (evA e (.tmp 77) = .v (.bool (decide (¬ TG na ps nb qs b d v post sq stop)))) ∧ (evA e (.tmp 3) = evA e_5 (.tmp 3)) ∧ (evA e (.tmp 4) = evA e_5 (.tmp 4)) ∧ (evA e (.tmp 5) = evA e_5 (.tmp 5)) ∧ m_3 = mem) ?_ ?_
       ·
         refine aw_text (by kernel_rfl) ?_
         refine al_ro' (ro_eq (ro_ld_ptr k45_ty51 rfl mo0_3 s3_5 (by first | exact Nat.le_of_ble_eq_true rfl | omega | (simp only [lnS] <;> omega) | (simp <;> omega))) (by first | (simp only [packA_t, packA_f, iE, bE, setAt, cellsA, Value.cells, map_vc, map_vn, Nat.reduceAdd, qS, td_m, dr_m, tk_m] <;> rfl) | rfl)) trivial rfl ?_
         refine al_ro' (ro_call (evL_cons up_h evL_nil) rfl (bSmall_ok na ps) k45_hcf28) trivial rfl ?_
         refine al_ro' (ro_not up_h) trivial rfl ?_
         refine al_ro' (ro_move up_h) trivial rfl ?_
         refine al_case up_h (fun hb_9 hq_9 => ?_) (fun hb_9 hq_9 => ?_)
         · (first | replace hq_9 := bnt hq_9 | replace hq_9 := bnf hq_9 | replace hq_9 := bt hq_9 | replace hq_9 := bf hq_9 | replace hq_9 := bt' hq_9 | replace hq_9 := bf' hq_9 | skip)
           first
           | (cases hq_9; done) | (exfalso; omega)
           | (
              refine al_skip' ⟨_, rfl, .inl hb_9⟩ rfl ?_
              refine al_skip' ⟨_, rfl, .inl (up_m rfl hb_9)⟩ rfl ?_
              refine al_skip' ⟨_, rfl, .inl (u2 rfl hb_9)⟩ rfl ?_
              refine al_ro' (ro_pickT (up_m rfl (u2 rfl hb_9)) ev_c) trivial rfl ?_
              refine al_ro' (ro_move up_h) trivial rfl ?_
              refine al_skip' ⟨_, rfl, .inl up_h⟩ rfl ?_
              refine al_skip' ⟨_, rfl, .inl (up_m rfl up_h)⟩ rfl ?_
              refine al_skip' ⟨_, rfl, .inl (u2 rfl up_h)⟩ rfl ?_
              refine al_skip' ⟨_, rfl, .inl (up_m rfl (u2 rfl up_h))⟩ rfl ?_
              refine al_skip' ⟨_, rfl, .inl (u4 rfl up_h)⟩ rfl ?_
              refine al_skip' ⟨_, rfl, .inl (up_m rfl (u4 rfl up_h))⟩ rfl ?_
              refine al_skip' ⟨_, rfl, .inl (u2 rfl (u4 rfl up_h))⟩ rfl ?_
              refine al_skip' ⟨_, rfl, .inl (up_m rfl (u2 rfl (u4 rfl up_h)))⟩ rfl ?_
              refine al_ro' (ro_pickT (u8 rfl up_h) ev_c) trivial rfl ?_
              refine al_ro' (ro_move up_h) trivial rfl ?_
              refine al_skip' ⟨_, rfl, .inl up_h⟩ rfl ?_
              refine al_skip' ⟨_, rfl, .inl (up_m rfl up_h)⟩ rfl ?_
              refine al_skip' ⟨_, rfl, .inl (u2 rfl up_h)⟩ rfl ?_
              refine al_skip' ⟨_, rfl, .inl (up_m rfl (u2 rfl up_h))⟩ rfl ?_
              refine al_ro' (ro_pickT (u4 rfl up_h) ev_c) trivial rfl ?_
              refine al_ro' (ro_move up_h) trivial rfl ?_
              refine al_skip' ⟨_, rfl, .inl up_h⟩ rfl ?_
              refine al_skip' ⟨_, rfl, .inl (up_m rfl up_h)⟩ rfl ?_
              refine al_skip' ⟨_, rfl, .inl (u2 rfl up_h)⟩ rfl ?_
              refine al_skip' ⟨_, rfl, .inl (up_m rfl (u2 rfl up_h))⟩ rfl ?_
              refine al_skip' ⟨_, rfl, .inl (u4 rfl up_h)⟩ rfl ?_
              refine al_ro' (ro_pickT (up_m rfl (u4 rfl up_h)) ev_c) trivial rfl ?_
              refine al_ro' (ro_move up_h) trivial rfl ?_
              refine al_skip' ⟨_, rfl, .inl up_h⟩ rfl ?_
              refine al_skip' ⟨_, rfl, .inl (up_m rfl up_h)⟩ rfl ?_
              refine al_skip' ⟨_, rfl, .inl (u2 rfl up_h)⟩ rfl ?_
              refine al_skip' ⟨_, rfl, .inl (up_m rfl (u2 rfl up_h))⟩ rfl ?_
              refine al_skip' ⟨_, rfl, .inl (u4 rfl up_h)⟩ rfl ?_
              refine al_ro' (ro_pickT (up_m rfl (u4 rfl up_h)) ev_c) trivial rfl ?_
              refine al_ro' (ro_move up_h) trivial rfl ?_
              refine al_skip' ⟨_, rfl, .inl up_h⟩ rfl ?_
              refine al_skip' ⟨_, rfl, .inl (up_m rfl up_h)⟩ rfl ?_
              refine al_skip' ⟨_, rfl, .inl (u2 rfl up_h)⟩ rfl ?_
              refine al_skip' ⟨_, rfl, .inl (up_m rfl (u2 rfl up_h))⟩ rfl ?_
              refine al_ro' (ro_pickT (u4 rfl up_h) ev_c) trivial rfl ?_
              refine al_ro' (ro_move up_h) trivial rfl ?_
              refine al_skip' ⟨_, rfl, .inl up_h⟩ rfl ?_
              refine al_skip' ⟨_, rfl, .inl (up_m rfl up_h)⟩ rfl ?_
              refine al_skip' ⟨_, rfl, .inl (u2 rfl up_h)⟩ rfl ?_
              refine al_skip' ⟨_, rfl, .inl (up_m rfl (u2 rfl up_h))⟩ rfl ?_
              refine al_skip' ⟨_, rfl, .inl (u4 rfl up_h)⟩ rfl ?_
              refine al_skip' ⟨_, rfl, .inl (up_m rfl (u4 rfl up_h))⟩ rfl ?_
              refine al_ro' (ro_pickT (u2 rfl (u4 rfl up_h)) ev_c) trivial rfl ?_
              refine al_end (fun e_10 he_10 => ?_)
              have s3_10 := ef 3 he_10 (u4 rfl (u16 rfl (u16 rfl (u16 rfl s3_5))))
              have s4_10 := ef 4 he_10 (u4 rfl (u16 rfl (u16 rfl (u16 rfl s4_5))))
              have s5_10 := ef 5 he_10 (u4 rfl (u16 rfl (u16 rfl (u16 rfl s5_5))))
              have s77_10 := ef 77 he_10 up_h
              clear he_10
              refine then_n ⟨(s77_10).trans (by (refine avb ?_; simp only [decide_eq_true_eq, Bool.false_eq_true, true_iff, false_iff, Bool.not_eq_true', decide_eq_false_iff_not]; unfold TG; omega)), (s3_10).trans (s3_5).symm, (s4_10).trans (s4_5).symm, (s5_10).trans (s5_5).symm, rfl⟩)
         · (first | replace hq_9 := bnt hq_9 | replace hq_9 := bnf hq_9 | replace hq_9 := bt hq_9 | replace hq_9 := bf hq_9 | replace hq_9 := bt' hq_9 | replace hq_9 := bf' hq_9 | skip)
           first
           | (cases hq_9; done) | (exfalso; omega)
           | (
              refine al_ro' (ro_eq (ro_ld_ptr k45_ty51 rfl mo1_3 (u4 rfl s4_5) (by first | exact Nat.le_of_ble_eq_true rfl | omega | (simp only [lnS] <;> omega) | (simp <;> omega))) (by first | (simp only [packA_t, packA_f, iE, bE, setAt, cellsA, Value.cells, map_vc, map_vn, Nat.reduceAdd, qS, td_m, dr_m, tk_m] <;> rfl) | rfl)) ⟨_, rfl, hb_9⟩ rfl ?_
              refine al_ro' (ro_call (evL_cons up_h evL_nil) rfl (bSmall_ok nb qs) k45_hcf28) ⟨_, rfl, (up_m rfl hb_9)⟩ rfl ?_
              refine al_ro' (ro_not up_h) ⟨_, rfl, (u2 rfl hb_9)⟩ rfl ?_
              refine al_ro' (ro_pickF (up_m rfl (u2 rfl hb_9)) up_h) trivial rfl ?_
              refine al_ro' (ro_move up_h) trivial rfl ?_
              refine al_case up_h (fun hb_11 hq_11 => ?_) (fun hb_11 hq_11 => ?_)
              · (first | replace hq_11 := bnt hq_11 | replace hq_11 := bnf hq_11 | replace hq_11 := bt hq_11 | replace hq_11 := bf hq_11 | replace hq_11 := bt' hq_11 | replace hq_11 := bf' hq_11 | skip)
                first
                | (cases hq_11; done) | (exfalso; omega)
                | (
                   refine al_skip' ⟨_, rfl, .inl hb_11⟩ rfl ?_
                   refine al_skip' ⟨_, rfl, .inl (up_m rfl hb_11)⟩ rfl ?_
                   refine al_skip' ⟨_, rfl, .inl (u2 rfl hb_11)⟩ rfl ?_
                   refine al_skip' ⟨_, rfl, .inl (up_m rfl (u2 rfl hb_11))⟩ rfl ?_
                   refine al_skip' ⟨_, rfl, .inl (u4 rfl hb_11)⟩ rfl ?_
                   refine al_skip' ⟨_, rfl, .inl (up_m rfl (u4 rfl hb_11))⟩ rfl ?_
                   refine al_skip' ⟨_, rfl, .inl (u2 rfl (u4 rfl hb_11))⟩ rfl ?_
                   refine al_skip' ⟨_, rfl, .inl (up_m rfl (u2 rfl (u4 rfl hb_11)))⟩ rfl ?_
                   refine al_ro' (ro_pickT (u8 rfl hb_11) ev_c) trivial rfl ?_
                   refine al_ro' (ro_move up_h) trivial rfl ?_
                   refine al_skip' ⟨_, rfl, .inl up_h⟩ rfl ?_
                   refine al_skip' ⟨_, rfl, .inl (up_m rfl up_h)⟩ rfl ?_
                   refine al_skip' ⟨_, rfl, .inl (u2 rfl up_h)⟩ rfl ?_
                   refine al_skip' ⟨_, rfl, .inl (up_m rfl (u2 rfl up_h))⟩ rfl ?_
                   refine al_ro' (ro_pickT (u4 rfl up_h) ev_c) trivial rfl ?_
                   refine al_ro' (ro_move up_h) trivial rfl ?_
                   refine al_skip' ⟨_, rfl, .inl up_h⟩ rfl ?_
                   refine al_skip' ⟨_, rfl, .inl (up_m rfl up_h)⟩ rfl ?_
                   refine al_skip' ⟨_, rfl, .inl (u2 rfl up_h)⟩ rfl ?_
                   refine al_skip' ⟨_, rfl, .inl (up_m rfl (u2 rfl up_h))⟩ rfl ?_
                   refine al_skip' ⟨_, rfl, .inl (u4 rfl up_h)⟩ rfl ?_
                   refine al_ro' (ro_pickT (up_m rfl (u4 rfl up_h)) ev_c) trivial rfl ?_
                   refine al_ro' (ro_move up_h) trivial rfl ?_
                   refine al_skip' ⟨_, rfl, .inl up_h⟩ rfl ?_
                   refine al_skip' ⟨_, rfl, .inl (up_m rfl up_h)⟩ rfl ?_
                   refine al_skip' ⟨_, rfl, .inl (u2 rfl up_h)⟩ rfl ?_
                   refine al_skip' ⟨_, rfl, .inl (up_m rfl (u2 rfl up_h))⟩ rfl ?_
                   refine al_skip' ⟨_, rfl, .inl (u4 rfl up_h)⟩ rfl ?_
                   refine al_ro' (ro_pickT (up_m rfl (u4 rfl up_h)) ev_c) trivial rfl ?_
                   refine al_ro' (ro_move up_h) trivial rfl ?_
                   refine al_skip' ⟨_, rfl, .inl up_h⟩ rfl ?_
                   refine al_skip' ⟨_, rfl, .inl (up_m rfl up_h)⟩ rfl ?_
                   refine al_skip' ⟨_, rfl, .inl (u2 rfl up_h)⟩ rfl ?_
                   refine al_skip' ⟨_, rfl, .inl (up_m rfl (u2 rfl up_h))⟩ rfl ?_
                   refine al_ro' (ro_pickT (u4 rfl up_h) ev_c) trivial rfl ?_
                   refine al_ro' (ro_move up_h) trivial rfl ?_
                   refine al_skip' ⟨_, rfl, .inl up_h⟩ rfl ?_
                   refine al_skip' ⟨_, rfl, .inl (up_m rfl up_h)⟩ rfl ?_
                   refine al_skip' ⟨_, rfl, .inl (u2 rfl up_h)⟩ rfl ?_
                   refine al_skip' ⟨_, rfl, .inl (up_m rfl (u2 rfl up_h))⟩ rfl ?_
                   refine al_skip' ⟨_, rfl, .inl (u4 rfl up_h)⟩ rfl ?_
                   refine al_skip' ⟨_, rfl, .inl (up_m rfl (u4 rfl up_h))⟩ rfl ?_
                   refine al_ro' (ro_pickT (u2 rfl (u4 rfl up_h)) ev_c) trivial rfl ?_
                   refine al_end (fun e_12 he_12 => ?_)
                   have s3_12 := ef 3 he_12 (u4 rfl (u16 rfl (u16 rfl (u16 rfl s3_5))))
                   have s4_12 := ef 4 he_12 (u4 rfl (u16 rfl (u16 rfl (u16 rfl s4_5))))
                   have s5_12 := ef 5 he_12 (u4 rfl (u16 rfl (u16 rfl (u16 rfl s5_5))))
                   have s77_12 := ef 77 he_12 up_h
                   clear he_12
                   refine then_n ⟨(s77_12).trans (by (refine avb ?_; simp only [decide_eq_true_eq, Bool.false_eq_true, true_iff, false_iff, Bool.not_eq_true', decide_eq_false_iff_not]; unfold TG; omega)), (s3_12).trans (s3_5).symm, (s4_12).trans (s4_5).symm, (s5_12).trans (s5_5).symm, rfl⟩)
              · (first | replace hq_11 := bnt hq_11 | replace hq_11 := bnf hq_11 | replace hq_11 := bt hq_11 | replace hq_11 := bf hq_11 | replace hq_11 := bt' hq_11 | replace hq_11 := bf' hq_11 | skip)
                first
                | (cases hq_11; done) | (exfalso; omega)
                | (
                   refine al_ro' (ro_fld_ptr k45_fl51_1 rfl (up_m rfl (u8 rfl s3_5))) ⟨_, rfl, hb_11⟩ rfl ?_
                   refine al_ro' (ro_eq (ro_ld_ptr k45_ty49 rfl mo0_3 up_h (by first | exact Nat.le_of_ble_eq_true rfl | omega | (simp only [lnS] <;> omega) | (simp <;> omega))) (by first | (simp only [packA_t, packA_f, iE, bE, setAt, cellsA, Value.cells, map_vc, map_vn, Nat.reduceAdd, qS, td_m, dr_m, tk_m] <;> rfl) | rfl)) ⟨_, rfl, (up_m rfl hb_11)⟩ rfl ?_
                   refine al_ro' (ro_eq (ro_len_row up_h rfl k45_sl49.1) (by first | (simp only [lnS] <;> rfl) | rfl)) ⟨_, rfl, (u2 rfl hb_11)⟩ rfl ?_
                   refine al_ro' (ro_fld_ptr k45_fl51_1 rfl (u4 rfl (u8 rfl s4_5))) ⟨_, rfl, (up_m rfl (u2 rfl hb_11))⟩ rfl ?_
                   refine al_ro' (ro_eq (ro_ld_ptr k45_ty49 rfl mo1_3 up_h (by first | exact Nat.le_of_ble_eq_true rfl | omega | (simp only [lnS] <;> omega) | (simp <;> omega))) (by first | (simp only [packA_t, packA_f, iE, bE, setAt, cellsA, Value.cells, map_vc, map_vn, Nat.reduceAdd, qS, td_m, dr_m, tk_m] <;> rfl) | rfl)) ⟨_, rfl, (u4 rfl hb_11)⟩ rfl ?_
                   refine al_ro' (ro_eq (ro_len_row up_h rfl k45_sl49.1) (by first | (simp only [lnS] <;> rfl) | rfl)) ⟨_, rfl, (up_m rfl (u4 rfl hb_11))⟩ rfl ?_
                   first | (refine al_ro' (ro_add' (up_m rfl (u2 rfl up_h)) up_h ?_) ⟨_, rfl, (u2 rfl (u4 rfl hb_11))⟩ rfl ?_; · (unfold In64; omega)) | refine al_ro' (ro_add (up_m rfl (u2 rfl up_h)) up_h) ⟨_, rfl, (u2 rfl (u4 rfl hb_11))⟩ rfl ?_
                   refine al_ro' (ro_gtr up_h ev_c) ⟨_, rfl, (up_m rfl (u2 rfl (u4 rfl hb_11)))⟩ rfl ?_
                   refine al_ro' (ro_pickF (u8 rfl hb_11) up_h) trivial rfl ?_
                   refine al_ro' (ro_move up_h) trivial rfl ?_
                   refine al_case up_h (fun hb_13 hq_13 => ?_) (fun hb_13 hq_13 => ?_)
                   · (first | replace hq_13 := bnt hq_13 | replace hq_13 := bnf hq_13 | replace hq_13 := bt hq_13 | replace hq_13 := bf hq_13 | replace hq_13 := bt' hq_13 | replace hq_13 := bf' hq_13 | skip)
                     first
                     | (cases hq_13; done) | (exfalso; omega)
                     | (
                        refine al_skip' ⟨_, rfl, .inl hb_13⟩ rfl ?_
                        refine al_skip' ⟨_, rfl, .inl (up_m rfl hb_13)⟩ rfl ?_
                        refine al_skip' ⟨_, rfl, .inl (u2 rfl hb_13)⟩ rfl ?_
                        refine al_skip' ⟨_, rfl, .inl (up_m rfl (u2 rfl hb_13))⟩ rfl ?_
                        refine al_ro' (ro_pickT (u4 rfl hb_13) ev_c) trivial rfl ?_
                        refine al_ro' (ro_move up_h) trivial rfl ?_
                        refine al_skip' ⟨_, rfl, .inl up_h⟩ rfl ?_
                        refine al_skip' ⟨_, rfl, .inl (up_m rfl up_h)⟩ rfl ?_
                        refine al_skip' ⟨_, rfl, .inl (u2 rfl up_h)⟩ rfl ?_
                        refine al_skip' ⟨_, rfl, .inl (up_m rfl (u2 rfl up_h))⟩ rfl ?_
                        refine al_skip' ⟨_, rfl, .inl (u4 rfl up_h)⟩ rfl ?_
                        refine al_ro' (ro_pickT (up_m rfl (u4 rfl up_h)) ev_c) trivial rfl ?_
                        refine al_ro' (ro_move up_h) trivial rfl ?_
                        refine al_skip' ⟨_, rfl, .inl up_h⟩ rfl ?_
                        refine al_skip' ⟨_, rfl, .inl (up_m rfl up_h)⟩ rfl ?_
                        refine al_skip' ⟨_, rfl, .inl (u2 rfl up_h)⟩ rfl ?_
                        refine al_skip' ⟨_, rfl, .inl (up_m rfl (u2 rfl up_h))⟩ rfl ?_
                        refine al_skip' ⟨_, rfl, .inl (u4 rfl up_h)⟩ rfl ?_
                        refine al_ro' (ro_pickT (up_m rfl (u4 rfl up_h)) ev_c) trivial rfl ?_
                        refine al_ro' (ro_move up_h) trivial rfl ?_
                        refine al_skip' ⟨_, rfl, .inl up_h⟩ rfl ?_
                        refine al_skip' ⟨_, rfl, .inl (up_m rfl up_h)⟩ rfl ?_
                        refine al_skip' ⟨_, rfl, .inl (u2 rfl up_h)⟩ rfl ?_
                        refine al_skip' ⟨_, rfl, .inl (up_m rfl (u2 rfl up_h))⟩ rfl ?_
                        refine al_ro' (ro_pickT (u4 rfl up_h) ev_c) trivial rfl ?_
                        refine al_ro' (ro_move up_h) trivial rfl ?_
                        refine al_skip' ⟨_, rfl, .inl up_h⟩ rfl ?_
                        refine al_skip' ⟨_, rfl, .inl (up_m rfl up_h)⟩ rfl ?_
                        refine al_skip' ⟨_, rfl, .inl (u2 rfl up_h)⟩ rfl ?_
                        refine al_skip' ⟨_, rfl, .inl (up_m rfl (u2 rfl up_h))⟩ rfl ?_
                        refine al_skip' ⟨_, rfl, .inl (u4 rfl up_h)⟩ rfl ?_
                        refine al_skip' ⟨_, rfl, .inl (up_m rfl (u4 rfl up_h))⟩ rfl ?_
                        refine al_ro' (ro_pickT (u2 rfl (u4 rfl up_h)) ev_c) trivial rfl ?_
                        refine al_end (fun e_14 he_14 => ?_)
                        have s3_14 := ef 3 he_14 (u4 rfl (u16 rfl (u16 rfl (u16 rfl s3_5))))
                        have s4_14 := ef 4 he_14 (u4 rfl (u16 rfl (u16 rfl (u16 rfl s4_5))))
                        have s5_14 := ef 5 he_14 (u4 rfl (u16 rfl (u16 rfl (u16 rfl s5_5))))
                        have s77_14 := ef 77 he_14 up_h
                        clear he_14
                        refine then_n ⟨(s77_14).trans (by (refine avb ?_; simp only [decide_eq_true_eq, Bool.false_eq_true, true_iff, false_iff, Bool.not_eq_true', decide_eq_false_iff_not]; unfold TG; omega)), (s3_14).trans (s3_5).symm, (s4_14).trans (s4_5).symm, (s5_14).trans (s5_5).symm, rfl⟩)
                   · (first | replace hq_13 := bnt hq_13 | replace hq_13 := bnf hq_13 | replace hq_13 := bt hq_13 | replace hq_13 := bf hq_13 | replace hq_13 := bt' hq_13 | replace hq_13 := bf' hq_13 | skip)
                     first
                     | (cases hq_13; done) | (exfalso; omega)
                     | (
                        refine al_ro' (ro_fld_ptr k45_fl70_0 rfl (up_m rfl (u2 rfl (u16 rfl s5_5)))) ⟨_, rfl, hb_13⟩ rfl ?_
                        refine al_ro' (ro_eq (ro_ld_ptr k45_ty53 rfl mo2_3 up_h (by first | exact Nat.le_of_ble_eq_true rfl | omega | (simp only [lnS] <;> omega) | (simp <;> omega))) (by first | (simp only [packA_t, packA_f, iE, bE, setAt, cellsA, Value.cells, map_vc, map_vn, Nat.reduceAdd, qS, td_m, dr_m, tk_m] <;> rfl) | rfl)) ⟨_, rfl, (up_m rfl hb_13)⟩ rfl ?_
                        refine al_ro' (ro_call (evL_cons up_h evL_nil) rfl (rCheckSystem_ok b d v) k45_hcf29) ⟨_, rfl, (u2 rfl hb_13)⟩ rfl ?_
                        refine al_ro' (ro_neq up_h ev_c) ⟨_, rfl, (up_m rfl (u2 rfl hb_13))⟩ rfl ?_
                        refine al_ro' (ro_pickF (u4 rfl hb_13) up_h) trivial rfl ?_
                        refine al_ro' (ro_move up_h) trivial rfl ?_
                        refine al_case up_h (fun hb_15 hq_15 => ?_) (fun hb_15 hq_15 => ?_)
                        · (first | replace hq_15 := bnt hq_15 | replace hq_15 := bnf hq_15 | replace hq_15 := bt hq_15 | replace hq_15 := bf hq_15 | replace hq_15 := bt' hq_15 | replace hq_15 := bf' hq_15 | skip)
                          first
                          | (cases hq_15; done) | (exfalso; omega)
                          | (
                             refine al_skip' ⟨_, rfl, .inl hb_15⟩ rfl ?_
                             refine al_skip' ⟨_, rfl, .inl (up_m rfl hb_15)⟩ rfl ?_
                             refine al_skip' ⟨_, rfl, .inl (u2 rfl hb_15)⟩ rfl ?_
                             refine al_skip' ⟨_, rfl, .inl (up_m rfl (u2 rfl hb_15))⟩ rfl ?_
                             refine al_skip' ⟨_, rfl, .inl (u4 rfl hb_15)⟩ rfl ?_
                             refine al_ro' (ro_pickT (up_m rfl (u4 rfl hb_15)) ev_c) trivial rfl ?_
                             refine al_ro' (ro_move up_h) trivial rfl ?_
                             refine al_skip' ⟨_, rfl, .inl up_h⟩ rfl ?_
                             refine al_skip' ⟨_, rfl, .inl (up_m rfl up_h)⟩ rfl ?_
                             refine al_skip' ⟨_, rfl, .inl (u2 rfl up_h)⟩ rfl ?_
                             refine al_skip' ⟨_, rfl, .inl (up_m rfl (u2 rfl up_h))⟩ rfl ?_
                             refine al_skip' ⟨_, rfl, .inl (u4 rfl up_h)⟩ rfl ?_
                             refine al_ro' (ro_pickT (up_m rfl (u4 rfl up_h)) ev_c) trivial rfl ?_
                             refine al_ro' (ro_move up_h) trivial rfl ?_
                             refine al_skip' ⟨_, rfl, .inl up_h⟩ rfl ?_
                             refine al_skip' ⟨_, rfl, .inl (up_m rfl up_h)⟩ rfl ?_
                             refine al_skip' ⟨_, rfl, .inl (u2 rfl up_h)⟩ rfl ?_
                             refine al_skip' ⟨_, rfl, .inl (up_m rfl (u2 rfl up_h))⟩ rfl ?_
                             refine al_ro' (ro_pickT (u4 rfl up_h) ev_c) trivial rfl ?_
                             refine al_ro' (ro_move up_h) trivial rfl ?_
                             refine al_skip' ⟨_, rfl, .inl up_h⟩ rfl ?_
                             refine al_skip' ⟨_, rfl, .inl (up_m rfl up_h)⟩ rfl ?_
                             refine al_skip' ⟨_, rfl, .inl (u2 rfl up_h)⟩ rfl ?_
                             refine al_skip' ⟨_, rfl, .inl (up_m rfl (u2 rfl up_h))⟩ rfl ?_
                             refine al_skip' ⟨_, rfl, .inl (u4 rfl up_h)⟩ rfl ?_
                             refine al_skip' ⟨_, rfl, .inl (up_m rfl (u4 rfl up_h))⟩ rfl ?_
                             refine al_ro' (ro_pickT (u2 rfl (u4 rfl up_h)) ev_c) trivial rfl ?_
                             refine al_end (fun e_16 he_16 => ?_)
                             have s3_16 := ef 3 he_16 (u4 rfl (u16 rfl (u16 rfl (u16 rfl s3_5))))
                             have s4_16 := ef 4 he_16 (u4 rfl (u16 rfl (u16 rfl (u16 rfl s4_5))))
                             have s5_16 := ef 5 he_16 (u4 rfl (u16 rfl (u16 rfl (u16 rfl s5_5))))
                             have s77_16 := ef 77 he_16 up_h
                             clear he_16
                             refine then_n ⟨(s77_16).trans (by (refine avb ?_; simp only [decide_eq_true_eq, Bool.false_eq_true, true_iff, false_iff, Bool.not_eq_true', decide_eq_false_iff_not]; unfold TG; omega)), (s3_16).trans (s3_5).symm, (s4_16).trans (s4_5).symm, (s5_16).trans (s5_5).symm, rfl⟩)
                        · (first | replace hq_15 := bnt hq_15 | replace hq_15 := bnf hq_15 | replace hq_15 := bt hq_15 | replace hq_15 := bf hq_15 | replace hq_15 := bt' hq_15 | replace hq_15 := bf' hq_15 | skip)
                          first
                          | (cases hq_15; done) | (exfalso; omega)
                          | (
                             refine al_ro' (ro_eq (ro_ld_ptr k45_ty51 rfl mo1_3 (up_m rfl (u8 rfl (u16 rfl s4_5))) (by first | exact Nat.le_of_ble_eq_true rfl | omega | (simp only [lnS] <;> omega) | (simp <;> omega))) (by first | (simp only [packA_t, packA_f, iE, bE, setAt, cellsA, Value.cells, map_vc, map_vn, Nat.reduceAdd, qS, td_m, dr_m, tk_m] <;> rfl) | rfl)) ⟨_, rfl, hb_15⟩ rfl ?_
                             refine al_ro' (ro_fld_ptr k45_fl70_2 rfl (u2 rfl (u8 rfl (u16 rfl s5_5)))) ⟨_, rfl, (up_m rfl hb_15)⟩ rfl ?_
                             refine al_ro' (ro_eq (ro_ld_ptr k45_ty3 rfl mo2_3 up_h (by first | exact Nat.le_of_ble_eq_true rfl | omega | (simp only [lnS] <;> omega) | (simp <;> omega))) (by first | (simp only [packA_t, packA_f, iE, bE, setAt, cellsA, Value.cells, map_vc, map_vn, Nat.reduceAdd, qS, td_m, dr_m, tk_m] <;> rfl) | rfl)) ⟨_, rfl, (u2 rfl hb_15)⟩ rfl ?_
                             refine al_ro' (ro_call (evL_cons (u2 rfl up_h) (evL_cons up_h evL_nil)) rfl (rStopErr_ok nb qs (by omega) stop) k45_hcf30) ⟨_, rfl, (up_m rfl (u2 rfl hb_15))⟩ rfl ?_
                             refine al_ro' (ro_neq up_h ev_c) ⟨_, rfl, (u4 rfl hb_15)⟩ rfl ?_
                             refine al_ro' (ro_pickF (up_m rfl (u4 rfl hb_15)) up_h) trivial rfl ?_
                             refine al_ro' (ro_move up_h) trivial rfl ?_
                             refine al_case up_h (fun hb_17 hq_17 => ?_) (fun hb_17 hq_17 => ?_)
                             · (first | replace hq_17 := bnt hq_17 | replace hq_17 := bnf hq_17 | replace hq_17 := bt hq_17 | replace hq_17 := bf hq_17 | replace hq_17 := bt' hq_17 | replace hq_17 := bf' hq_17 | skip)
                               first
                               | (cases hq_17; done) | (exfalso; omega)
                               | (
                                  refine al_skip' ⟨_, rfl, .inl hb_17⟩ rfl ?_
                                  refine al_skip' ⟨_, rfl, .inl (up_m rfl hb_17)⟩ rfl ?_
                                  refine al_skip' ⟨_, rfl, .inl (u2 rfl hb_17)⟩ rfl ?_
                                  refine al_skip' ⟨_, rfl, .inl (up_m rfl (u2 rfl hb_17))⟩ rfl ?_
                                  refine al_skip' ⟨_, rfl, .inl (u4 rfl hb_17)⟩ rfl ?_
                                  refine al_ro' (ro_pickT (up_m rfl (u4 rfl hb_17)) ev_c) trivial rfl ?_
                                  refine al_ro' (ro_move up_h) trivial rfl ?_
                                  refine al_skip' ⟨_, rfl, .inl up_h⟩ rfl ?_
                                  refine al_skip' ⟨_, rfl, .inl (up_m rfl up_h)⟩ rfl ?_
                                  refine al_skip' ⟨_, rfl, .inl (u2 rfl up_h)⟩ rfl ?_
                                  refine al_skip' ⟨_, rfl, .inl (up_m rfl (u2 rfl up_h))⟩ rfl ?_
                                  refine al_ro' (ro_pickT (u4 rfl up_h) ev_c) trivial rfl ?_
                                  refine al_ro' (ro_move up_h) trivial rfl ?_
                                  refine al_skip' ⟨_, rfl, .inl up_h⟩ rfl ?_
                                  refine al_skip' ⟨_, rfl, .inl (up_m rfl up_h)⟩ rfl ?_
                                  refine al_skip' ⟨_, rfl, .inl (u2 rfl up_h)⟩ rfl ?_
                                  refine al_skip' ⟨_, rfl, .inl (up_m rfl (u2 rfl up_h))⟩ rfl ?_
                                  refine al_skip' ⟨_, rfl, .inl (u4 rfl up_h)⟩ rfl ?_
                                  refine al_skip' ⟨_, rfl, .inl (up_m rfl (u4 rfl up_h))⟩ rfl ?_
                                  refine al_ro' (ro_pickT (u2 rfl (u4 rfl up_h)) ev_c) trivial rfl ?_
                                  refine al_end (fun e_18 he_18 => ?_)
                                  have s3_18 := ef 3 he_18 (u4 rfl (u16 rfl (u16 rfl (u16 rfl s3_5))))
                                  have s4_18 := ef 4 he_18 (u4 rfl (u16 rfl (u16 rfl (u16 rfl s4_5))))
                                  have s5_18 := ef 5 he_18 (u4 rfl (u16 rfl (u16 rfl (u16 rfl s5_5))))
                                  have s77_18 := ef 77 he_18 up_h
                                  clear he_18
                                  refine then_n ⟨(s77_18).trans (by (refine avb ?_; simp only [decide_eq_true_eq, Bool.false_eq_true, true_iff, false_iff, Bool.not_eq_true', decide_eq_false_iff_not]; unfold TG; omega)), (s3_18).trans (s3_5).symm, (s4_18).trans (s4_5).symm, (s5_18).trans (s5_5).symm, rfl⟩)
                             · (first | replace hq_17 := bnt hq_17 | replace hq_17 := bnf hq_17 | replace hq_17 := bt hq_17 | replace hq_17 := bf hq_17 | replace hq_17 := bt' hq_17 | replace hq_17 := bf' hq_17 | skip)
                               first
                               | (cases hq_17; done) | (exfalso; omega)
                               | (
                                  refine al_ro' (ro_eq (ro_ld_ptr k45_ty51 rfl mo1_3 (u16 rfl (u16 rfl s4_5)) (by first | exact Nat.le_of_ble_eq_true rfl | omega | (simp only [lnS] <;> omega) | (simp <;> omega))) (by first | (simp only [packA_t, packA_f, iE, bE, setAt, cellsA, Value.cells, map_vc, map_vn, Nat.reduceAdd, qS, td_m, dr_m, tk_m] <;> rfl) | rfl)) ⟨_, rfl, hb_17⟩ rfl ?_
                                  refine al_ro' (ro_fld_ptr k45_fl70_1 rfl (up_m rfl (u16 rfl (u16 rfl s5_5)))) ⟨_, rfl, (up_m rfl hb_17)⟩ rfl ?_
                                  refine al_ro' (ro_eq (ro_ld_ptr k45_ty68 rfl mo2_3 up_h (by first | exact Nat.le_of_ble_eq_true rfl | omega | (simp only [lnS] <;> omega) | (simp <;> omega))) (by first | (simp only [packA_t, packA_f, iE, bE, setAt, cellsA, Value.cells, map_vc, map_vn, Nat.reduceAdd, qS, td_m, dr_m, tk_m] <;> rfl) | rfl)) ⟨_, rfl, (u2 rfl hb_17)⟩ rfl ?_
                                  refine al_ro' (ro_call (evL_cons (u2 rfl up_h) (evL_cons up_h evL_nil)) rfl (rStateErr_ok nb qs post sq) k45_hcf31) ⟨_, rfl, (up_m rfl (u2 rfl hb_17))⟩ rfl ?_
                                  refine al_ro' (ro_neq up_h ev_c) ⟨_, rfl, (u4 rfl hb_17)⟩ rfl ?_
                                  refine al_ro' (ro_pickF (up_m rfl (u4 rfl hb_17)) up_h) trivial rfl ?_
                                  refine al_ro' (ro_move up_h) trivial rfl ?_
                                  refine al_case up_h (fun hb_19 hq_19 => ?_) (fun hb_19 hq_19 => ?_)
                                  · (first | replace hq_19 := bnt hq_19 | replace hq_19 := bnf hq_19 | replace hq_19 := bt hq_19 | replace hq_19 := bf hq_19 | replace hq_19 := bt' hq_19 | replace hq_19 := bf' hq_19 | skip)
                                    first
                                    | (cases hq_19; done) | (exfalso; omega)
                                    | (
                                       refine al_skip' ⟨_, rfl, .inl hb_19⟩ rfl ?_
                                       refine al_skip' ⟨_, rfl, .inl (up_m rfl hb_19)⟩ rfl ?_
                                       refine al_skip' ⟨_, rfl, .inl (u2 rfl hb_19)⟩ rfl ?_
                                       refine al_skip' ⟨_, rfl, .inl (up_m rfl (u2 rfl hb_19))⟩ rfl ?_
                                       refine al_ro' (ro_pickT (u4 rfl hb_19) ev_c) trivial rfl ?_
                                       refine al_ro' (ro_move up_h) trivial rfl ?_
                                       refine al_skip' ⟨_, rfl, .inl up_h⟩ rfl ?_
                                       refine al_skip' ⟨_, rfl, .inl (up_m rfl up_h)⟩ rfl ?_
                                       refine al_skip' ⟨_, rfl, .inl (u2 rfl up_h)⟩ rfl ?_
                                       refine al_skip' ⟨_, rfl, .inl (up_m rfl (u2 rfl up_h))⟩ rfl ?_
                                       refine al_skip' ⟨_, rfl, .inl (u4 rfl up_h)⟩ rfl ?_
                                       refine al_skip' ⟨_, rfl, .inl (up_m rfl (u4 rfl up_h))⟩ rfl ?_
                                       refine al_ro' (ro_pickT (u2 rfl (u4 rfl up_h)) ev_c) trivial rfl ?_
                                       refine al_end (fun e_20 he_20 => ?_)
                                       have s3_20 := ef 3 he_20 (u4 rfl (u16 rfl (u16 rfl (u16 rfl s3_5))))
                                       have s4_20 := ef 4 he_20 (u4 rfl (u16 rfl (u16 rfl (u16 rfl s4_5))))
                                       have s5_20 := ef 5 he_20 (u4 rfl (u16 rfl (u16 rfl (u16 rfl s5_5))))
                                       have s77_20 := ef 77 he_20 up_h
                                       clear he_20
                                       refine then_n ⟨(s77_20).trans (by (refine avb ?_; simp only [decide_eq_true_eq, Bool.false_eq_true, true_iff, false_iff, Bool.not_eq_true', decide_eq_false_iff_not]; unfold TG; omega)), (s3_20).trans (s3_5).symm, (s4_20).trans (s4_5).symm, (s5_20).trans (s5_5).symm, rfl⟩)
                                  · (first | replace hq_19 := bnt hq_19 | replace hq_19 := bnf hq_19 | replace hq_19 := bt hq_19 | replace hq_19 := bf hq_19 | replace hq_19 := bt' hq_19 | replace hq_19 := bf' hq_19 | skip)
                                    first
                                    | (cases hq_19; done) | (exfalso; omega)
                                    | (
                                       refine al_ro' (ro_fld_ptr k45_fl70_1 rfl (up_m rfl (u2 rfl (u4 rfl (u16 rfl (u16 rfl s5_5)))))) ⟨_, rfl, hb_19⟩ rfl ?_
                                       refine al_ro' (ro_fld_ptr k45_fl68_0 rfl up_h) ⟨_, rfl, (up_m rfl hb_19)⟩ rfl ?_
                                       refine al_ro' (ro_eq (ro_ld_ptr k45_ty3 rfl mo2_3 up_h (by first | exact Nat.le_of_ble_eq_true rfl | omega | (simp only [lnS] <;> omega) | (simp <;> omega))) (by first | (simp only [packA_t, packA_f, iE, bE, setAt, cellsA, Value.cells, map_vc, map_vn, Nat.reduceAdd, qS, td_m, dr_m, tk_m] <;> rfl) | rfl)) ⟨_, rfl, (u2 rfl hb_19)⟩ rfl ?_
                                       refine al_ro' (ro_lss up_h ev_c) ⟨_, rfl, (up_m rfl (u2 rfl hb_19))⟩ rfl ?_
                                       refine al_ro' (ro_pickF (u4 rfl hb_19) up_h) trivial rfl ?_
                                       refine al_ro' (ro_move up_h) trivial rfl ?_
                                       refine al_case up_h (fun hb_21 hq_21 => ?_) (fun hb_21 hq_21 => ?_)
                                       · (first | replace hq_21 := bnt hq_21 | replace hq_21 := bnf hq_21 | replace hq_21 := bt hq_21 | replace hq_21 := bf hq_21 | replace hq_21 := bt' hq_21 | replace hq_21 := bf' hq_21 | skip)
                                         first
                                         | (cases hq_21; done) | (exfalso; omega)
                                         | (
                                            refine al_skip' ⟨_, rfl, .inl hb_21⟩ rfl ?_
                                            refine al_skip' ⟨_, rfl, .inl (up_m rfl hb_21)⟩ rfl ?_
                                            refine al_skip' ⟨_, rfl, .inl (u2 rfl hb_21)⟩ rfl ?_
                                            refine al_skip' ⟨_, rfl, .inl (up_m rfl (u2 rfl hb_21))⟩ rfl ?_
                                            refine al_skip' ⟨_, rfl, .inl (u4 rfl hb_21)⟩ rfl ?_
                                            refine al_skip' ⟨_, rfl, .inl (up_m rfl (u4 rfl hb_21))⟩ rfl ?_
                                            refine al_ro' (ro_pickT (u2 rfl (u4 rfl hb_21)) ev_c) trivial rfl ?_
                                            refine al_end (fun e_22 he_22 => ?_)
                                            have s3_22 := ef 3 he_22 (u4 rfl (u16 rfl (u16 rfl (u16 rfl s3_5))))
                                            have s4_22 := ef 4 he_22 (u4 rfl (u16 rfl (u16 rfl (u16 rfl s4_5))))
                                            have s5_22 := ef 5 he_22 (u4 rfl (u16 rfl (u16 rfl (u16 rfl s5_5))))
                                            have s77_22 := ef 77 he_22 up_h
                                            clear he_22
                                            refine then_n ⟨(s77_22).trans (by (refine avb ?_; simp only [decide_eq_true_eq, Bool.false_eq_true, true_iff, false_iff, Bool.not_eq_true', decide_eq_false_iff_not]; unfold TG; omega)), (s3_22).trans (s3_5).symm, (s4_22).trans (s4_5).symm, (s5_22).trans (s5_5).symm, rfl⟩)
                                       · (first | replace hq_21 := bnt hq_21 | replace hq_21 := bnf hq_21 | replace hq_21 := bt hq_21 | replace hq_21 := bf hq_21 | replace hq_21 := bt' hq_21 | replace hq_21 := bf' hq_21 | skip)
                                         first
                                         | (cases hq_21; done) | (exfalso; omega)
                                         | (
                                            refine al_ro' (ro_fld_ptr k45_fl70_1 rfl (up_m rfl (u4 rfl (u8 rfl (u16 rfl (u16 rfl s5_5)))))) ⟨_, rfl, hb_21⟩ rfl ?_
                                            refine al_ro' (ro_fld_ptr k45_fl68_0 rfl up_h) ⟨_, rfl, (up_m rfl hb_21)⟩ rfl ?_
                                            refine al_ro' (ro_eq (ro_ld_ptr k45_ty3 rfl mo2_3 up_h (by first | exact Nat.le_of_ble_eq_true rfl | omega | (simp only [lnS] <;> omega) | (simp <;> omega))) (by first | (simp only [packA_t, packA_f, iE, bE, setAt, cellsA, Value.cells, map_vc, map_vn, Nat.reduceAdd, qS, td_m, dr_m, tk_m] <;> rfl) | rfl)) ⟨_, rfl, (u2 rfl hb_21)⟩ rfl ?_
                                            refine al_ro' (ro_fld_ptr k45_fl70_2 rfl (u16 rfl (u16 rfl (u16 rfl s5_5)))) ⟨_, rfl, (up_m rfl (u2 rfl hb_21))⟩ rfl ?_
                                            refine al_ro' (ro_eq (ro_ld_ptr k45_ty3 rfl mo2_3 up_h (by first | exact Nat.le_of_ble_eq_true rfl | omega | (simp only [lnS] <;> omega) | (simp <;> omega))) (by first | (simp only [packA_t, packA_f, iE, bE, setAt, cellsA, Value.cells, map_vc, map_vn, Nat.reduceAdd, qS, td_m, dr_m, tk_m] <;> rfl) | rfl)) ⟨_, rfl, (u4 rfl hb_21)⟩ rfl ?_
                                            refine al_ro' (ro_gtr (u2 rfl up_h) up_h) ⟨_, rfl, (up_m rfl (u4 rfl hb_21))⟩ rfl ?_
                                            refine al_ro' (ro_pickF (u2 rfl (u4 rfl hb_21)) up_h) trivial rfl ?_
                                            refine al_end (fun e_23 he_23 => ?_)
                                            have s3_23 := ef 3 he_23 (u4 rfl (u16 rfl (u16 rfl (u16 rfl s3_5))))
                                            have s4_23 := ef 4 he_23 (u4 rfl (u16 rfl (u16 rfl (u16 rfl s4_5))))
                                            have s5_23 := ef 5 he_23 (u4 rfl (u16 rfl (u16 rfl (u16 rfl s5_5))))
                                            have s77_23 := ef 77 he_23 up_h
                                            clear he_23
                                            refine then_n ⟨(s77_23).trans (by (refine avb ?_; simp only [decide_eq_true_eq, Bool.false_eq_true, true_iff, false_iff, Bool.not_eq_true', decide_eq_false_iff_not]; unfold TG; omega)), (s3_23).trans (s3_5).symm, (s4_23).trans (s4_5).symm, (s5_23).trans (s5_5).symm, rfl⟩)))))))
       · rintro e_8 _ ⟨s77_8, k3_8, k4_8, k5_8, rfl⟩
         have s3_8 := k3_8.trans s3_5
         have s4_8 := k4_8.trans s4_5
         have s5_8 := k5_8.trans s5_5
         refine aw_case s77_8 (fun hq_24 => ?_) (fun hq_24 => ?_)
         · (first | replace hq_24 := bnt hq_24 | replace hq_24 := bnf hq_24 | replace hq_24 := bt hq_24 | replace hq_24 := bf hq_24 | replace hq_24 := bt' hq_24 | replace hq_24 := bf' hq_24 | skip)
           first
           | (cases hq_24; done) | (exfalso; omega)
           | (
              refine aw_seq ?_
              refine aw_text (by kernel_rfl) ?_
              refine al_ro' (ro_assign ev_c) trivial rfl ?_
              refine al_end (fun e_25 he_25 => ?_)
              have s6_25 := ef 6 he_25 up_h
              clear he_25 s3_8 s4_8 s5_8 s77_8
              refine then_n ?_
              refine aw_ret ?_
              refine then_r ?_
              refine ret1 (.inr rfl) (by kernel_rfl) (resV_tmp s6_25) (.ro _ rfl) ?_
              clear s6_25 mo2_3 mo1_3 mo0_3 ml_3
              (first | rfl | (have hT : jT ps qs xs = ((0, 0), 11) := (by unfold jT; rw [if_neg (by omega)]); rw [hT]; rfl) | (have hT : jT ps qs xs = (((timW ps (xs.take (ps.length + 1))).1.1 + (timW qs (xs.drop ps.length)).1.1, (timW ps (xs.take (ps.length + 1))).1.2 + (timW qs (xs.drop ps.length)).1.2), 0) := (by unfold jT; rw [if_pos (by omega)]); first | (rw [hT]; simp; done) | (exfalso; have h0 : (jT ps qs xs).2 = 0 := congrArg Prod.snd hT; omega))))
         · (first | replace hq_24 := bnt hq_24 | replace hq_24 := bnf hq_24 | replace hq_24 := bt hq_24 | replace hq_24 := bf hq_24 | replace hq_24 := bt' hq_24 | replace hq_24 := bf' hq_24 | skip)
           first
           | (cases hq_24; done) | (exfalso; omega)
           | (
              (have hG : TG na ps nb qs b d v post sq stop := (by first | assumption | exact Classical.not_not.1 (by assumption)); have hR := hG.run; obtain ⟨hj, hja, hc1, hr1, hc2, hr2, hst, hsq⟩ := hR; obtain ⟨⟨g1, g2, g3⟩, ⟨g4, g5, g6⟩, g7, g8, g9, g10, g11, g12⟩ := id hG; have hJl : (ps ++ qs).length = ps.length + qs.length := List.length_append; have hst1 : ((ps.length : Int) + stop + 1).toNat = ps.length + (stop + 1).toNat := (by omega); have hrw := runW_app (ps := ps) (qs := qs) (b := b) (d := d) (sq := sq) g11 g12 hst.2; have hrl := runW_le qs b d stop post sq; have hl1 := bwL_len qs b 0 (stop + 1).toNat; have hl2 := bwL_len (ps ++ qs) b 0 (ps.length + (stop + 1).toNat))
              refine aw_skip ?_
              refine then_n ?_
              refine aw_seq ?_
              refine aw_drawK 10 1 ml_3 (by kernel_rfl) (by kernel_rfl) (by kernel_rfl) (by kernel_rfl) (fun m_26 hm_26 => ?_)
              have mo2_26 := m_room_o hm_26 mo2_3
              have mo1_26 := m_room_o hm_26 mo1_3
              have mo0_26 := m_room_o hm_26 mo0_3
              have mo3_26 : m_26[3]? = _ := m_room_g hm_26 ml_3 0 rfl rfl
              have ml_26 : _ = 4 := m_room_l hm_26 ml_3
              clear hm_26 mo2_3 mo1_3 mo0_3 ml_3
              refine dh_ld (0) (fun M_ hM_ => (ro_eq (ro_ld_ptr k45_ty51 rfl (agr hM_ mo0_26 (by simp)) s3_8 (by first | exact Nat.le_of_ble_eq_true rfl | omega | (simp only [lnS] <;> omega) | (simp <;> omega))) (by first | (simp only [packA_t, packA_f, iE, bE, setAt, cellsA, Value.cells, map_vc, map_vn, Nat.reduceAdd, qS, td_m, dr_m, tk_m] <;> rfl) | rfl))) trivial trivial ?_
              first | refine dh_ro (fun M_ hM_ => (ro_call (evL_cons up_h evL_nil) rfl (rCopy_ok na ps (by omega)) k45_hcf21)) trivial ?_ | refine dh_ro (fun M_ hM_ => (ro_call (evL_cons up_h evL_nil) rfl (rCopy_ok nb qs (by omega)) k45_hcf21)) trivial ?_ | refine dh_ro (fun M_ hM_ => (ro_call (evL_cons up_h evL_nil) rfl (rCopy_ok na (ps ++ qs) (by omega)) k45_hcf21)) trivial ?_
              refine dh_ld (1) (fun M_ hM_ => (ro_eq (ro_ld_ptr k45_ty51 rfl (agr hM_ mo1_26 (by simp)) (u2 rfl s4_8) (by first | exact Nat.le_of_ble_eq_true rfl | omega | (simp only [lnS] <;> omega) | (simp <;> omega))) (by first | (simp only [packA_t, packA_f, iE, bE, setAt, cellsA, Value.cells, map_vc, map_vn, Nat.reduceAdd, qS, td_m, dr_m, tk_m] <;> rfl) | rfl))) trivial trivial ?_
              first | refine dh_ro (fun M_ hM_ => (ro_call (evL_cons up_h evL_nil) rfl (rCopy_ok na ps (by omega)) k45_hcf21)) trivial ?_ | refine dh_ro (fun M_ hM_ => (ro_call (evL_cons up_h evL_nil) rfl (rCopy_ok nb qs (by omega)) k45_hcf21)) trivial ?_ | refine dh_ro (fun M_ hM_ => (ro_call (evL_cons up_h evL_nil) rfl (rCopy_ok na (ps ++ qs) (by omega)) k45_hcf21)) trivial ?_
              refine dh_ro (fun M_ hM_ => (ro_call (evL_cons (u2 rfl up_h) (evL_cons up_h evL_nil)) rfl ((joined_ok na ps nb qs (by omega) (by omega) (by omega) (by omega)).mono (fun q h => h.trans (by rw [hj, if_pos rfl, if_pos rfl]))) k45_hcf32)) trivial ?_
              refine dh_ro (fun M_ hM_ => (ro_move up_h)) trivial ?_
              refine dh_ro (fun M_ hM_ => (ro_extract up_h rfl)) trivial ?_
              refine dh_ro (fun M_ hM_ => (ro_extract (up_m rfl up_h) rfl)) trivial ?_
              refine dh_nw (3) (fun M_ hM_ => (nw_alloc k45_az51 rfl)) trivial mo3_26 rfl trivial ⟨.inl (by simp <;> omega), ⟨.inl (by simp <;> omega), trivial⟩⟩ (fun m_27 hm_27 => ?_)
              have mo3_27 := m_set hm_27 mo3_26
              (try simp only [packA_t, packA_f, iE, bE, setAt, cellsA, Value.cells, map_vc, map_vn, Nat.reduceAdd, qS, td_m, dr_m, tk_m] at mo3_27)
              have mo2_27 := m_set_o hm_27 mo2_26 (by decide)
              have mo1_27 := m_set_o hm_27 mo1_26 (by decide)
              have mo0_27 := m_set_o hm_27 mo0_26 (by decide)
              have ml_27 := m_set_l hm_27 ml_26
              clear hm_27 mo2_26 mo1_26 mo0_26 mo3_26
              refine dh_set (3) (fun M_ hM_ => (se_store up_h (u2 rfl up_h) rfl rfl (agr hM_ mo3_27 (by simp)) k45_sz51 rfl (by first | exact Nat.le_of_ble_eq_true rfl | omega | (simp only [lnS] <;> omega) | (simp <;> omega)))) trivial ⟨.inr (wt_one 9 8 (by kernel_rfl)), trivial⟩ ⟨.inl (by simp <;> omega), ⟨.inl (by simp <;> omega), ⟨.inr (wt_one 9 8 (by kernel_rfl)), trivial⟩⟩⟩ (fun m_28 hm_28 => ?_)
              have mo3_28 := m_set hm_28 mo3_27
              (try simp only [packA_t, packA_f, iE, bE, setAt, cellsA, Value.cells, map_vc, map_vn, Nat.reduceAdd, qS, td_m, dr_m, tk_m] at mo3_28)
              have mo2_28 := m_set_o hm_28 mo2_27 (by decide)
              have mo1_28 := m_set_o hm_28 mo1_27 (by decide)
              have mo0_28 := m_set_o hm_28 mo0_27 (by decide)
              have ml_28 := m_set_l hm_28 ml_27
              clear hm_28 mo3_27 mo2_27 mo1_27 mo0_27
              refine dh_nil rfl ?_
              refine al_ro' (ro_assign (up_n (up_m rfl up_h))) trivial rfl ?_
              refine al_end (fun e_29 he_29 => ?_)
              have s3_29 := ef 3 he_29 (up_m rfl (up_n (up_m rfl (u8 rfl s3_8))))
              have s4_29 := ef 4 he_29 (up_m rfl (up_n (up_m rfl (u8 rfl s4_8))))
              have s5_29 := ef 5 he_29 (up_m rfl (up_n (up_m rfl (u8 rfl s5_8))))
              have s7_29 := ef 7 he_29 (up_m rfl (up_n up_h))
              have s8_29 := ef 8 he_29 up_h
              clear he_29 s3_8 s4_8 s5_8 s77_8
              refine then_n ?_
              refine aw_seq ?_
              refine aw_seq ?_
              refine aw_text (by kernel_rfl) ?_
              refine al_ro' (ro_move s8_29) trivial rfl ?_
              refine al_ro' (ro_neq up_h ev_c) trivial rfl ?_
              refine al_ro' (ro_move up_h) trivial rfl ?_
              refine al_case up_h (fun hb_30 hq_30 => ?_) (fun hb_30 hq_30 => ?_)
              · (first | replace hq_30 := bnt hq_30 | replace hq_30 := bnf hq_30 | replace hq_30 := bt hq_30 | replace hq_30 := bf hq_30 | replace hq_30 := bt' hq_30 | replace hq_30 := bf' hq_30 | skip)
                first
                | (cases hq_30; done) | (exfalso; omega)
                | (
                   refine al_skip' ⟨_, rfl, .inl hb_30⟩ rfl ?_
                   refine al_skip' ⟨_, rfl, .inl (up_m rfl hb_30)⟩ rfl ?_
                   refine al_skip' ⟨_, rfl, .inl (u2 rfl hb_30)⟩ rfl ?_
                   refine al_ro' (ro_pickT (up_m rfl (u2 rfl hb_30)) ev_c) trivial rfl ?_
                   refine al_ro' (ro_move up_h) trivial rfl ?_
                   refine al_skip' ⟨_, rfl, .inl up_h⟩ rfl ?_
                   refine al_skip' ⟨_, rfl, .inl (up_m rfl up_h)⟩ rfl ?_
                   refine al_skip' ⟨_, rfl, .inl (u2 rfl up_h)⟩ rfl ?_
                   refine al_skip' ⟨_, rfl, .inl (up_m rfl (u2 rfl up_h))⟩ rfl ?_
                   refine al_skip' ⟨_, rfl, .inl (u4 rfl up_h)⟩ rfl ?_
                   refine al_skip' ⟨_, rfl, .inl (up_m rfl (u4 rfl up_h))⟩ rfl ?_
                   refine al_skip' ⟨_, rfl, .inl (u2 rfl (u4 rfl up_h))⟩ rfl ?_
                   refine al_skip' ⟨_, rfl, .inl (up_m rfl (u2 rfl (u4 rfl up_h)))⟩ rfl ?_
                   refine al_skip' ⟨_, rfl, .inl (u8 rfl up_h)⟩ rfl ?_
                   refine al_skip' ⟨_, rfl, .inl (up_m rfl (u8 rfl up_h))⟩ rfl ?_
                   refine al_skip' ⟨_, rfl, .inl (u2 rfl (u8 rfl up_h))⟩ rfl ?_
                   refine al_ro' (ro_pickT (up_m rfl (u2 rfl (u8 rfl up_h))) ev_c) trivial rfl ?_
                   refine al_end (fun e_31 he_31 => ?_)
                   have s3_31 := ef 3 he_31 (u4 rfl (u16 rfl s3_29))
                   have s4_31 := ef 4 he_31 (u4 rfl (u16 rfl s4_29))
                   have s5_31 := ef 5 he_31 (u4 rfl (u16 rfl s5_29))
                   have s7_31 := ef 7 he_31 (u4 rfl (u16 rfl s7_29))
                   have s105_31 := ef 105 he_31 up_h
                   clear he_31 hb_30 s3_29 s4_29 s5_29 s7_29 s8_29
                   refine then_n ?_
                   refine aw_true s105_31 ?_
                   refine aw_seq ?_
                   refine aw_text (by kernel_rfl) ?_
                   refine al_ro' (ro_assign ev_c) trivial rfl ?_
                   refine al_end (fun e_33 he_33 => ?_)
                   have s6_33 := ef 6 he_33 up_h
                   clear he_33 s105_31 s3_31 s4_31 s5_31 s7_31
                   refine then_n ?_
                   refine aw_ret ?_
                   refine then_r ?_
                   refine ret1 (.inr rfl) (by kernel_rfl) (resV_tmp s6_33) (.ro _ rfl) ?_
                   clear s6_33 mo3_28 mo2_28 mo1_28 mo0_28 ml_28
                   (first | rfl | (have hT : jT ps qs xs = ((0, 0), 11) := (by unfold jT; rw [if_neg (by omega)]); rw [hT]; rfl) | (have hT : jT ps qs xs = (((timW ps (xs.take (ps.length + 1))).1.1 + (timW qs (xs.drop ps.length)).1.1, (timW ps (xs.take (ps.length + 1))).1.2 + (timW qs (xs.drop ps.length)).1.2), 0) := (by unfold jT; rw [if_pos (by omega)]); first | (rw [hT]; simp; done) | (exfalso; have h0 : (jT ps qs xs).2 = 0 := congrArg Prod.snd hT; omega))))
              · (first | replace hq_30 := bnt hq_30 | replace hq_30 := bnf hq_30 | replace hq_30 := bt hq_30 | replace hq_30 := bf hq_30 | replace hq_30 := bt' hq_30 | replace hq_30 := bf' hq_30 | skip)
                first
                | (cases hq_30; done) | (exfalso; omega)
                | (
                   refine al_ro' (ro_eq (ro_ld_ptr k45_ty51 rfl mo3_28 (up_m rfl (u2 rfl s7_29)) (by first | exact Nat.le_of_ble_eq_true rfl | omega | (simp only [lnS] <;> omega) | (simp <;> omega))) (by first | (simp only [packA_t, packA_f, iE, bE, setAt, cellsA, Value.cells, map_vc, map_vn, Nat.reduceAdd, qS, td_m, dr_m, tk_m] <;> rfl) | rfl)) ⟨_, rfl, hb_30⟩ rfl ?_
                   refine al_ro' (ro_call (evL_cons up_h evL_nil) rfl ((rTrackErr_ok na (ps ++ qs) (by omega) (by omega)).mono (fun q h => h.trans (by rw [hja]))) k45_hcf33) ⟨_, rfl, (up_m rfl hb_30)⟩ rfl ?_
                   refine al_ro' (ro_neq up_h ev_c) ⟨_, rfl, (u2 rfl hb_30)⟩ rfl ?_
                   refine al_ro' (ro_pickF (up_m rfl (u2 rfl hb_30)) up_h) trivial rfl ?_
                   refine al_ro' (ro_move up_h) trivial rfl ?_
                   refine al_case up_h (fun hb_34 hq_34 => ?_) (fun hb_34 hq_34 => ?_)
                   · (first | replace hq_34 := bnt hq_34 | replace hq_34 := bnf hq_34 | replace hq_34 := bt hq_34 | replace hq_34 := bf hq_34 | replace hq_34 := bt' hq_34 | replace hq_34 := bf' hq_34 | skip)
                     first
                     | (cases hq_34; done) | (exfalso; omega)
                     | (
                        refine al_skip' ⟨_, rfl, .inl hb_34⟩ rfl ?_
                        refine al_skip' ⟨_, rfl, .inl (up_m rfl hb_34)⟩ rfl ?_
                        refine al_skip' ⟨_, rfl, .inl (u2 rfl hb_34)⟩ rfl ?_
                        refine al_skip' ⟨_, rfl, .inl (up_m rfl (u2 rfl hb_34))⟩ rfl ?_
                        refine al_skip' ⟨_, rfl, .inl (u4 rfl hb_34)⟩ rfl ?_
                        refine al_skip' ⟨_, rfl, .inl (up_m rfl (u4 rfl hb_34))⟩ rfl ?_
                        refine al_skip' ⟨_, rfl, .inl (u2 rfl (u4 rfl hb_34))⟩ rfl ?_
                        refine al_skip' ⟨_, rfl, .inl (up_m rfl (u2 rfl (u4 rfl hb_34)))⟩ rfl ?_
                        refine al_skip' ⟨_, rfl, .inl (u8 rfl hb_34)⟩ rfl ?_
                        refine al_skip' ⟨_, rfl, .inl (up_m rfl (u8 rfl hb_34))⟩ rfl ?_
                        refine al_skip' ⟨_, rfl, .inl (u2 rfl (u8 rfl hb_34))⟩ rfl ?_
                        refine al_ro' (ro_pickT (up_m rfl (u2 rfl (u8 rfl hb_34))) ev_c) trivial rfl ?_
                        refine al_end (fun e_35 he_35 => ?_)
                        have s3_35 := ef 3 he_35 (u4 rfl (u16 rfl s3_29))
                        have s4_35 := ef 4 he_35 (u4 rfl (u16 rfl s4_29))
                        have s5_35 := ef 5 he_35 (u4 rfl (u16 rfl s5_29))
                        have s7_35 := ef 7 he_35 (u4 rfl (u16 rfl s7_29))
                        have s105_35 := ef 105 he_35 up_h
                        clear he_35 hb_30 hb_34 s3_29 s4_29 s5_29 s7_29 s8_29
                        refine then_n ?_
                        refine aw_true s105_35 ?_
                        refine aw_seq ?_
                        refine aw_text (by kernel_rfl) ?_
                        refine al_ro' (ro_assign ev_c) trivial rfl ?_
                        refine al_end (fun e_37 he_37 => ?_)
                        have s6_37 := ef 6 he_37 up_h
                        clear he_37 s105_35 s3_35 s4_35 s5_35 s7_35
                        refine then_n ?_
                        refine aw_ret ?_
                        refine then_r ?_
                        refine ret1 (.inr rfl) (by kernel_rfl) (resV_tmp s6_37) (.ro _ rfl) ?_
                        clear s6_37 mo3_28 mo2_28 mo1_28 mo0_28 ml_28
                        (first | rfl | (have hT : jT ps qs xs = ((0, 0), 11) := (by unfold jT; rw [if_neg (by omega)]); rw [hT]; rfl) | (have hT : jT ps qs xs = (((timW ps (xs.take (ps.length + 1))).1.1 + (timW qs (xs.drop ps.length)).1.1, (timW ps (xs.take (ps.length + 1))).1.2 + (timW qs (xs.drop ps.length)).1.2), 0) := (by unfold jT; rw [if_pos (by omega)]); first | (rw [hT]; simp; done) | (exfalso; have h0 : (jT ps qs xs).2 = 0 := congrArg Prod.snd hT; omega))))
                   · (first | replace hq_34 := bnt hq_34 | replace hq_34 := bnf hq_34 | replace hq_34 := bt hq_34 | replace hq_34 := bf hq_34 | replace hq_34 := bt' hq_34 | replace hq_34 := bf' hq_34 | skip)
                     first
                     | (cases hq_34; done) | (exfalso; omega)
                     | (
                        refine al_ro' (ro_fld_ptr k45_fl51_1 rfl (u8 rfl s7_29)) ⟨_, rfl, hb_34⟩ rfl ?_
                        refine al_ro' (ro_eq (ro_ld_ptr k45_ty49 rfl mo3_28 up_h (by first | exact Nat.le_of_ble_eq_true rfl | omega | (simp only [lnS] <;> omega) | (simp <;> omega))) (by first | (simp only [packA_t, packA_f, iE, bE, setAt, cellsA, Value.cells, map_vc, map_vn, Nat.reduceAdd, qS, td_m, dr_m, tk_m] <;> rfl) | rfl)) ⟨_, rfl, (up_m rfl hb_34)⟩ rfl ?_
                        refine al_ro' (ro_eq (ro_len_row up_h rfl k45_sl49.1) (by first | (simp only [lnS] <;> rfl) | rfl)) ⟨_, rfl, (u2 rfl hb_34)⟩ rfl ?_
                        refine al_ro' (ro_fld_ptr k45_fl51_1 rfl (up_m rfl (u2 rfl (u8 rfl s3_29)))) ⟨_, rfl, (up_m rfl (u2 rfl hb_34))⟩ rfl ?_
                        refine al_ro' (ro_eq (ro_ld_ptr k45_ty49 rfl mo0_28 up_h (by first | exact Nat.le_of_ble_eq_true rfl | omega | (simp only [lnS] <;> omega) | (simp <;> omega))) (by first | (simp only [packA_t, packA_f, iE, bE, setAt, cellsA, Value.cells, map_vc, map_vn, Nat.reduceAdd, qS, td_m, dr_m, tk_m] <;> rfl) | rfl)) ⟨_, rfl, (u4 rfl hb_34)⟩ rfl ?_
                        refine al_ro' (ro_eq (ro_len_row up_h rfl k45_sl49.1) (by first | (simp only [lnS] <;> rfl) | rfl)) ⟨_, rfl, (up_m rfl (u4 rfl hb_34))⟩ rfl ?_
                        refine al_ro' (ro_fld_ptr k45_fl51_1 rfl (u2 rfl (u4 rfl (u8 rfl s4_29)))) ⟨_, rfl, (u2 rfl (u4 rfl hb_34))⟩ rfl ?_
                        refine al_ro' (ro_eq (ro_ld_ptr k45_ty49 rfl mo1_28 up_h (by first | exact Nat.le_of_ble_eq_true rfl | omega | (simp only [lnS] <;> omega) | (simp <;> omega))) (by first | (simp only [packA_t, packA_f, iE, bE, setAt, cellsA, Value.cells, map_vc, map_vn, Nat.reduceAdd, qS, td_m, dr_m, tk_m] <;> rfl) | rfl)) ⟨_, rfl, (up_m rfl (u2 rfl (u4 rfl hb_34)))⟩ rfl ?_
                        refine al_ro' (ro_eq (ro_len_row up_h rfl k45_sl49.1) (by first | (simp only [lnS] <;> rfl) | rfl)) ⟨_, rfl, (u8 rfl hb_34)⟩ rfl ?_
                        first | (refine al_ro' (ro_add' (up_m rfl (u2 rfl up_h)) up_h ?_) ⟨_, rfl, (up_m rfl (u8 rfl hb_34))⟩ rfl ?_; · (unfold In64; omega)) | refine al_ro' (ro_add (up_m rfl (u2 rfl up_h)) up_h) ⟨_, rfl, (up_m rfl (u8 rfl hb_34))⟩ rfl ?_
                        refine al_ro' (ro_neq (up_m rfl (u2 rfl (u4 rfl up_h))) up_h) ⟨_, rfl, (u2 rfl (u8 rfl hb_34))⟩ rfl ?_
                        refine al_ro' (ro_pickF (up_m rfl (u2 rfl (u8 rfl hb_34))) up_h) trivial rfl ?_
                        refine al_end (fun e_38 he_38 => ?_)
                        have s3_38 := ef 3 he_38 (u4 rfl (u16 rfl s3_29))
                        have s4_38 := ef 4 he_38 (u4 rfl (u16 rfl s4_29))
                        have s5_38 := ef 5 he_38 (u4 rfl (u16 rfl s5_29))
                        have s7_38 := ef 7 he_38 (u4 rfl (u16 rfl s7_29))
                        have s105_38 := ef 105 he_38 up_h
                        clear he_38 hb_30 hb_34 s3_29 s4_29 s5_29 s7_29 s8_29
                        refine then_n ?_
                        refine aw_case s105_38 (fun hq_39 => ?_) (fun hq_39 => ?_)
                        · (first | replace hq_39 := bnt hq_39 | replace hq_39 := bnf hq_39 | replace hq_39 := bt hq_39 | replace hq_39 := bf hq_39 | replace hq_39 := bt' hq_39 | replace hq_39 := bf' hq_39 | skip)
                          first
                          | (cases hq_39; done) | (exfalso; omega)
                          | (
                             refine aw_seq ?_
                             refine aw_text (by kernel_rfl) ?_
                             refine al_ro' (ro_assign ev_c) trivial rfl ?_
                             refine al_end (fun e_40 he_40 => ?_)
                             have s6_40 := ef 6 he_40 up_h
                             clear he_40 s105_38 s3_38 s4_38 s5_38 s7_38
                             refine then_n ?_
                             refine aw_ret ?_
                             refine then_r ?_
                             refine ret1 (.inr rfl) (by kernel_rfl) (resV_tmp s6_40) (.ro _ rfl) ?_
                             clear s6_40 mo3_28 mo2_28 mo1_28 mo0_28 ml_28
                             (first | rfl | (have hT : jT ps qs xs = ((0, 0), 11) := (by unfold jT; rw [if_neg (by omega)]); rw [hT]; rfl) | (have hT : jT ps qs xs = (((timW ps (xs.take (ps.length + 1))).1.1 + (timW qs (xs.drop ps.length)).1.1, (timW ps (xs.take (ps.length + 1))).1.2 + (timW qs (xs.drop ps.length)).1.2), 0) := (by unfold jT; rw [if_pos (by omega)]); first | (rw [hT]; simp; done) | (exfalso; have h0 : (jT ps qs xs).2 = 0 := congrArg Prod.snd hT; omega))))
                        · (first | replace hq_39 := bnt hq_39 | replace hq_39 := bnf hq_39 | replace hq_39 := bt hq_39 | replace hq_39 := bf hq_39 | replace hq_39 := bt' hq_39 | replace hq_39 := bf' hq_39 | skip)
                          first
                          | (cases hq_39; done) | (exfalso; omega)
                          | (
                             refine aw_skip ?_
                             refine then_n ?_
                             refine aw_seq ?_
                             refine aw_text (by kernel_rfl) ?_
                             refine al_ro' (ro_fld_ptr k45_fl51_1 rfl s3_38) trivial rfl ?_
                             refine al_ro' (ro_eq (ro_ld_ptr k45_ty49 rfl mo0_28 up_h (by first | exact Nat.le_of_ble_eq_true rfl | omega | (simp only [lnS] <;> omega) | (simp <;> omega))) (by first | (simp only [packA_t, packA_f, iE, bE, setAt, cellsA, Value.cells, map_vc, map_vn, Nat.reduceAdd, qS, td_m, dr_m, tk_m] <;> rfl) | rfl)) trivial rfl ?_
                             refine al_ro' (ro_eq (ro_len_row up_h rfl k45_sl49.1) (by first | (simp only [lnS] <;> rfl) | rfl)) trivial rfl ?_
                             refine al_ro' (ro_assign up_h) trivial rfl ?_
                             refine al_end (fun e_41 he_41 => ?_)
                             have s3_41 := ef 3 he_41 (u4 rfl s3_38)
                             have s4_41 := ef 4 he_41 (u4 rfl s4_38)
                             have s5_41 := ef 5 he_41 (u4 rfl s5_38)
                             have s7_41 := ef 7 he_41 (u4 rfl s7_38)
                             have s9_41 := ef 9 he_41 up_h
                             clear he_41 s105_38 s3_38 s4_38 s5_38 s7_38
                             refine then_n ?_
                             refine aw_seq ?_
                             refine aw_draw 12 (by kernel_rfl) (by kernel_rfl) (by kernel_rfl) (by kernel_rfl) ?_
                             refine ds_ro' (ro_eq (ro_ld_ptr k45_ty51 rfl mo1_28 s4_41 (by first | exact Nat.le_of_ble_eq_true rfl | omega | (simp only [lnS] <;> omega) | (simp <;> omega))) (by first | (simp only [packA_t, packA_f, iE, bE, setAt, cellsA, Value.cells, map_vc, map_vn, Nat.reduceAdd, qS, td_m, dr_m, tk_m] <;> rfl) | rfl)) trivial rfl ?_
                             first | refine ds_ro' (ro_call (evL_cons up_h evL_nil) rfl (rCopy_ok na ps (by omega)) k45_hcf21) trivial rfl ?_ | refine ds_ro' (ro_call (evL_cons up_h evL_nil) rfl (rCopy_ok nb qs (by omega)) k45_hcf21) trivial rfl ?_ | refine ds_ro' (ro_call (evL_cons up_h evL_nil) rfl (rCopy_ok na (ps ++ qs) (by omega)) k45_hcf21) trivial rfl ?_
                             refine ds_ro' (ro_fld_ptr k45_fl70_0 rfl (u2 rfl s5_41)) trivial rfl ?_
                             refine ds_ro' (ro_eq (ro_ld_ptr k45_ty53 rfl mo2_28 up_h (by first | exact Nat.le_of_ble_eq_true rfl | omega | (simp only [lnS] <;> omega) | (simp <;> omega))) (by first | (simp only [packA_t, packA_f, iE, bE, setAt, cellsA, Value.cells, map_vc, map_vn, Nat.reduceAdd, qS, td_m, dr_m, tk_m] <;> rfl) | rfl)) trivial rfl ?_
                             refine ds_ro' (ro_fld_ptr k45_fl70_2 rfl (u4 rfl s5_41)) trivial rfl ?_
                             refine ds_ro' (ro_eq (ro_ld_ptr k45_ty3 rfl mo2_28 up_h (by first | exact Nat.le_of_ble_eq_true rfl | omega | (simp only [lnS] <;> omega) | (simp <;> omega))) (by first | (simp only [packA_t, packA_f, iE, bE, setAt, cellsA, Value.cells, map_vc, map_vn, Nat.reduceAdd, qS, td_m, dr_m, tk_m] <;> rfl) | rfl)) trivial rfl ?_
                             refine ds_ro' (ro_call (evL_cons (u4 rfl up_h) (evL_cons (u2 rfl up_h) (evL_cons up_h evL_nil))) rfl (curveOf2_ok (by omega) (by omega) hc1) k45_hcf34) trivial rfl ?_
                             refine ds_ro' (ro_move up_h) trivial rfl ?_
                             refine ds_ro' (ro_extract up_h rfl) trivial rfl ?_
                             refine ds_ro' (ro_extract (up_m rfl up_h) rfl) trivial rfl ?_
                             refine ds_ro' (ro_assign (up_m rfl up_h)) trivial rfl ?_
                             refine ds_ro' (ro_assign (up_m rfl up_h)) trivial rfl ?_
                             refine ds_nil ?_
                             refine al_end (fun e_42 he_42 => ?_)
                             have s3_42 := ef 3 he_42 (u4 rfl (u8 rfl s3_41))
                             have s4_42 := ef 4 he_42 (u4 rfl (u8 rfl s4_41))
                             have s5_42 := ef 5 he_42 (u4 rfl (u8 rfl s5_41))
                             have s7_42 := ef 7 he_42 (u4 rfl (u8 rfl s7_41))
                             have s9_42 := ef 9 he_42 (u4 rfl (u8 rfl s9_41))
                             have s10_42 := ef 10 he_42 (up_m rfl up_h)
                             have s11_42 := ef 11 he_42 up_h
                             clear he_42 s3_41 s4_41 s5_41 s7_41 s9_41
                             refine then_n ?_
                             refine aw_seq ?_
                             refine aw_draw 14 (by kernel_rfl) (by kernel_rfl) (by kernel_rfl) (by kernel_rfl) ?_
                             refine ds_ro' (ro_eq (ro_ld_ptr k45_ty51 rfl mo3_28 s7_42 (by first | exact Nat.le_of_ble_eq_true rfl | omega | (simp only [lnS] <;> omega) | (simp <;> omega))) (by first | (simp only [packA_t, packA_f, iE, bE, setAt, cellsA, Value.cells, map_vc, map_vn, Nat.reduceAdd, qS, td_m, dr_m, tk_m] <;> rfl) | rfl)) trivial rfl ?_
                             first | refine ds_ro' (ro_call (evL_cons up_h evL_nil) rfl (rCopy_ok na ps (by omega)) k45_hcf21) trivial rfl ?_ | refine ds_ro' (ro_call (evL_cons up_h evL_nil) rfl (rCopy_ok nb qs (by omega)) k45_hcf21) trivial rfl ?_ | refine ds_ro' (ro_call (evL_cons up_h evL_nil) rfl (rCopy_ok na (ps ++ qs) (by omega)) k45_hcf21) trivial rfl ?_
                             refine ds_ro' (ro_fld_ptr k45_fl70_0 rfl (u2 rfl s5_42)) trivial rfl ?_
                             refine ds_ro' (ro_eq (ro_ld_ptr k45_ty53 rfl mo2_28 up_h (by first | exact Nat.le_of_ble_eq_true rfl | omega | (simp only [lnS] <;> omega) | (simp <;> omega))) (by first | (simp only [packA_t, packA_f, iE, bE, setAt, cellsA, Value.cells, map_vc, map_vn, Nat.reduceAdd, qS, td_m, dr_m, tk_m] <;> rfl) | rfl)) trivial rfl ?_
                             refine ds_ro' (ro_move (u4 rfl s9_42)) trivial rfl ?_
                             refine ds_ro' (ro_fld_ptr k45_fl70_2 rfl (up_m rfl (u4 rfl s5_42))) trivial rfl ?_
                             refine ds_ro' (ro_eq (ro_ld_ptr k45_ty3 rfl mo2_28 up_h (by first | exact Nat.le_of_ble_eq_true rfl | omega | (simp only [lnS] <;> omega) | (simp <;> omega))) (by first | (simp only [packA_t, packA_f, iE, bE, setAt, cellsA, Value.cells, map_vc, map_vn, Nat.reduceAdd, qS, td_m, dr_m, tk_m] <;> rfl) | rfl)) trivial rfl ?_
                             first | (refine ds_ro' (ro_add' (u2 rfl up_h) up_h ?_) trivial rfl ?_; · (unfold In64; omega)) | refine ds_ro' (ro_add (u2 rfl up_h) up_h) trivial rfl ?_
                             refine ds_ro' (ro_call (evL_cons (u2 rfl (u4 rfl up_h)) (evL_cons (u4 rfl up_h) (evL_cons up_h evL_nil))) rfl ((curveOf2_ok (by omega) (by omega) hc2).mono (fun q h => h.trans (by rw [hst1]))) k45_hcf34) trivial rfl ?_
                             refine ds_ro' (ro_move up_h) trivial rfl ?_
                             refine ds_ro' (ro_extract up_h rfl) trivial rfl ?_
                             refine ds_ro' (ro_extract (up_m rfl up_h) rfl) trivial rfl ?_
                             refine ds_ro' (ro_assign (up_m rfl up_h)) trivial rfl ?_
                             refine ds_ro' (ro_assign (up_m rfl up_h)) trivial rfl ?_
                             refine ds_nil ?_
                             refine al_end (fun e_43 he_43 => ?_)
                             have s3_43 := ef 3 he_43 (u2 rfl (u4 rfl (u8 rfl s3_42)))
                             have s4_43 := ef 4 he_43 (u2 rfl (u4 rfl (u8 rfl s4_42)))
                             have s5_43 := ef 5 he_43 (u2 rfl (u4 rfl (u8 rfl s5_42)))
                             have s7_43 := ef 7 he_43 (u2 rfl (u4 rfl (u8 rfl s7_42)))
                             have s9_43 := ef 9 he_43 (u2 rfl (u4 rfl (u8 rfl s9_42)))
                             have s10_43 := ef 10 he_43 (u2 rfl (u4 rfl (u8 rfl s10_42)))
                             have s11_43 := ef 11 he_43 (u2 rfl (u4 rfl (u8 rfl s11_42)))
                             have s12_43 := ef 12 he_43 (up_m rfl up_h)
                             have s13_43 := ef 13 he_43 up_h
                             clear he_43 s10_42 s11_42 s3_42 s4_42 s5_42 s7_42 s9_42
                             refine then_n ?_
                             refine aw_seq ?_
                             refine aw_seq ?_
                             refine aw_draw 34 (by kernel_rfl) (by kernel_rfl) (by kernel_rfl) (by kernel_rfl) ?_
                             refine ds_ro' (ro_move s11_43) trivial rfl ?_
                             refine ds_ro' (ro_neq up_h ev_c) trivial rfl ?_
                             refine ds_ro' (ro_move up_h) trivial rfl ?_
                             refine ds_case up_h (fun hb_44 hq_44 => ?_) (fun hb_44 hq_44 => ?_)
                             · (first | replace hq_44 := bnt hq_44 | replace hq_44 := bnf hq_44 | replace hq_44 := bt hq_44 | replace hq_44 := bf hq_44 | replace hq_44 := bt' hq_44 | replace hq_44 := bf' hq_44 | skip)
                               first
                               | (cases hq_44; done) | (exfalso; omega)
                               | (
                                  refine ds_skip' ⟨_, rfl, .inl hb_44⟩ rfl ?_
                                  refine ds_skip' ⟨_, rfl, .inl (up_m rfl hb_44)⟩ rfl ?_
                                  refine ds_ro' (ro_pickT (u2 rfl hb_44) ev_c) trivial rfl ?_
                                  refine ds_ro' (ro_move up_h) trivial rfl ?_
                                  refine ds_skip' ⟨_, rfl, .inl up_h⟩ rfl ?_
                                  refine ds_skip' ⟨_, rfl, .inl (up_m rfl up_h)⟩ rfl ?_
                                  refine ds_skip' ⟨_, rfl, .inl (u2 rfl up_h)⟩ rfl ?_
                                  refine ds_skip' ⟨_, rfl, .inl (up_m rfl (u2 rfl up_h))⟩ rfl ?_
                                  refine ds_skip' ⟨_, rfl, .inl (u4 rfl up_h)⟩ rfl ?_
                                  refine ds_skip' ⟨_, rfl, .inl (up_m rfl (u4 rfl up_h))⟩ rfl ?_
                                  refine ds_ro' (ro_pickT (u2 rfl (u4 rfl up_h)) ev_c) trivial rfl ?_
                                  refine ds_ro' (ro_move up_h) trivial rfl ?_
                                  refine ds_skip' ⟨_, rfl, .inl up_h⟩ rfl ?_
                                  refine ds_skip' ⟨_, rfl, .inl (up_m rfl up_h)⟩ rfl ?_
                                  refine ds_skip' ⟨_, rfl, .inl (u2 rfl up_h)⟩ rfl ?_
                                  refine ds_skip' ⟨_, rfl, .inl (up_m rfl (u2 rfl up_h))⟩ rfl ?_
                                  refine ds_skip' ⟨_, rfl, .inl (u4 rfl up_h)⟩ rfl ?_
                                  refine ds_skip' ⟨_, rfl, .inl (up_m rfl (u4 rfl up_h))⟩ rfl ?_
                                  refine ds_skip' ⟨_, rfl, .inl (u2 rfl (u4 rfl up_h))⟩ rfl ?_
                                  refine ds_skip' ⟨_, rfl, .inl (up_m rfl (u2 rfl (u4 rfl up_h)))⟩ rfl ?_
                                  refine ds_ro' (ro_pickT (u8 rfl up_h) ev_c) trivial rfl ?_
                                  refine ds_ro' (ro_move up_h) trivial rfl ?_
                                  refine ds_skip' ⟨_, rfl, .inl up_h⟩ rfl ?_
                                  refine ds_skip' ⟨_, rfl, .inl (up_m rfl up_h)⟩ rfl ?_
                                  refine ds_skip' ⟨_, rfl, .inl (u2 rfl up_h)⟩ rfl ?_
                                  refine ds_skip' ⟨_, rfl, .inl (up_m rfl (u2 rfl up_h))⟩ rfl ?_
                                  refine ds_skip' ⟨_, rfl, .inl (u4 rfl up_h)⟩ rfl ?_
                                  refine ds_skip' ⟨_, rfl, .inl (up_m rfl (u4 rfl up_h))⟩ rfl ?_
                                  refine ds_skip' ⟨_, rfl, .inl (u2 rfl (u4 rfl up_h))⟩ rfl ?_
                                  refine ds_skip' ⟨_, rfl, .inl (up_m rfl (u2 rfl (u4 rfl up_h)))⟩ rfl ?_
                                  refine ds_ro' (ro_pickT (u8 rfl up_h) ev_c) trivial rfl ?_
                                  refine ds_nil ?_
                                  refine al_end (fun e_45 he_45 => ?_)
                                  have s3_45 := ef 3 he_45 (u2 rfl (u16 rfl (u16 rfl s3_43)))
                                  have s4_45 := ef 4 he_45 (u2 rfl (u16 rfl (u16 rfl s4_43)))
                                  have s5_45 := ef 5 he_45 (u2 rfl (u16 rfl (u16 rfl s5_43)))
                                  have s7_45 := ef 7 he_45 (u2 rfl (u16 rfl (u16 rfl s7_43)))
                                  have s9_45 := ef 9 he_45 (u2 rfl (u16 rfl (u16 rfl s9_43)))
                                  have s164_45 := ef 164 he_45 up_h
                                  clear he_45 hb_44 s10_43 s11_43 s12_43 s13_43 s3_43 s4_43 s5_43 s7_43 s9_43
                                  refine then_n ?_
                                  refine aw_true s164_45 ?_
                                  refine aw_seq ?_
                                  refine aw_text (by kernel_rfl) ?_
                                  refine al_ro' (ro_assign ev_c) trivial rfl ?_
                                  refine al_end (fun e_47 he_47 => ?_)
                                  have s6_47 := ef 6 he_47 up_h
                                  clear he_47 s164_45 s3_45 s4_45 s5_45 s7_45 s9_45
                                  refine then_n ?_
                                  refine aw_ret ?_
                                  refine then_r ?_
                                  refine ret1 (.inr rfl) (by kernel_rfl) (resV_tmp s6_47) (.ro _ rfl) ?_
                                  clear s6_47 mo3_28 mo2_28 mo1_28 mo0_28 ml_28
                                  (first | rfl | (have hT : jT ps qs xs = ((0, 0), 11) := (by unfold jT; rw [if_neg (by omega)]); rw [hT]; rfl) | (have hT : jT ps qs xs = (((timW ps (xs.take (ps.length + 1))).1.1 + (timW qs (xs.drop ps.length)).1.1, (timW ps (xs.take (ps.length + 1))).1.2 + (timW qs (xs.drop ps.length)).1.2), 0) := (by unfold jT; rw [if_pos (by omega)]); first | (rw [hT]; simp; done) | (exfalso; have h0 : (jT ps qs xs).2 = 0 := congrArg Prod.snd hT; omega))))
                             · (first | replace hq_44 := bnt hq_44 | replace hq_44 := bnf hq_44 | replace hq_44 := bt hq_44 | replace hq_44 := bf hq_44 | replace hq_44 := bt' hq_44 | replace hq_44 := bf' hq_44 | skip)
                               first
                               | (cases hq_44; done) | (exfalso; omega)
                               | (
                                  refine ds_ro' (ro_move (up_m rfl (u2 rfl s13_43))) ⟨_, rfl, hb_44⟩ rfl ?_
                                  refine ds_ro' (ro_neq up_h ev_c) ⟨_, rfl, (up_m rfl hb_44)⟩ rfl ?_
                                  refine ds_ro' (ro_pickF (u2 rfl hb_44) up_h) trivial rfl ?_
                                  refine ds_ro' (ro_move up_h) trivial rfl ?_
                                  refine ds_case up_h (fun hb_48 hq_48 => ?_) (fun hb_48 hq_48 => ?_)
                                  · (first | replace hq_48 := bnt hq_48 | replace hq_48 := bnf hq_48 | replace hq_48 := bt hq_48 | replace hq_48 := bf hq_48 | replace hq_48 := bt' hq_48 | replace hq_48 := bf' hq_48 | skip)
                                    first
                                    | (cases hq_48; done) | (exfalso; omega)
                                    | (
                                       refine ds_skip' ⟨_, rfl, .inl hb_48⟩ rfl ?_
                                       refine ds_skip' ⟨_, rfl, .inl (up_m rfl hb_48)⟩ rfl ?_
                                       refine ds_skip' ⟨_, rfl, .inl (u2 rfl hb_48)⟩ rfl ?_
                                       refine ds_skip' ⟨_, rfl, .inl (up_m rfl (u2 rfl hb_48))⟩ rfl ?_
                                       refine ds_skip' ⟨_, rfl, .inl (u4 rfl hb_48)⟩ rfl ?_
                                       refine ds_skip' ⟨_, rfl, .inl (up_m rfl (u4 rfl hb_48))⟩ rfl ?_
                                       refine ds_ro' (ro_pickT (u2 rfl (u4 rfl hb_48)) ev_c) trivial rfl ?_
                                       refine ds_ro' (ro_move up_h) trivial rfl ?_
                                       refine ds_skip' ⟨_, rfl, .inl up_h⟩ rfl ?_
                                       refine ds_skip' ⟨_, rfl, .inl (up_m rfl up_h)⟩ rfl ?_
                                       refine ds_skip' ⟨_, rfl, .inl (u2 rfl up_h)⟩ rfl ?_
                                       refine ds_skip' ⟨_, rfl, .inl (up_m rfl (u2 rfl up_h))⟩ rfl ?_
                                       refine ds_skip' ⟨_, rfl, .inl (u4 rfl up_h)⟩ rfl ?_
                                       refine ds_skip' ⟨_, rfl, .inl (up_m rfl (u4 rfl up_h))⟩ rfl ?_
                                       refine ds_skip' ⟨_, rfl, .inl (u2 rfl (u4 rfl up_h))⟩ rfl ?_
                                       refine ds_skip' ⟨_, rfl, .inl (up_m rfl (u2 rfl (u4 rfl up_h)))⟩ rfl ?_
                                       refine ds_ro' (ro_pickT (u8 rfl up_h) ev_c) trivial rfl ?_
                                       refine ds_ro' (ro_move up_h) trivial rfl ?_
                                       refine ds_skip' ⟨_, rfl, .inl up_h⟩ rfl ?_
                                       refine ds_skip' ⟨_, rfl, .inl (up_m rfl up_h)⟩ rfl ?_
                                       refine ds_skip' ⟨_, rfl, .inl (u2 rfl up_h)⟩ rfl ?_
                                       refine ds_skip' ⟨_, rfl, .inl (up_m rfl (u2 rfl up_h))⟩ rfl ?_
                                       refine ds_skip' ⟨_, rfl, .inl (u4 rfl up_h)⟩ rfl ?_
                                       refine ds_skip' ⟨_, rfl, .inl (up_m rfl (u4 rfl up_h))⟩ rfl ?_
                                       refine ds_skip' ⟨_, rfl, .inl (u2 rfl (u4 rfl up_h))⟩ rfl ?_
                                       refine ds_skip' ⟨_, rfl, .inl (up_m rfl (u2 rfl (u4 rfl up_h)))⟩ rfl ?_
                                       refine ds_ro' (ro_pickT (u8 rfl up_h) ev_c) trivial rfl ?_
                                       refine ds_nil ?_
                                       refine al_end (fun e_49 he_49 => ?_)
                                       have s3_49 := ef 3 he_49 (u2 rfl (u16 rfl (u16 rfl s3_43)))
                                       have s4_49 := ef 4 he_49 (u2 rfl (u16 rfl (u16 rfl s4_43)))
                                       have s5_49 := ef 5 he_49 (u2 rfl (u16 rfl (u16 rfl s5_43)))
                                       have s7_49 := ef 7 he_49 (u2 rfl (u16 rfl (u16 rfl s7_43)))
                                       have s9_49 := ef 9 he_49 (u2 rfl (u16 rfl (u16 rfl s9_43)))
                                       have s164_49 := ef 164 he_49 up_h
                                       clear he_49 hb_44 hb_48 s10_43 s11_43 s12_43 s13_43 s3_43 s4_43 s5_43 s7_43 s9_43
                                       refine then_n ?_
                                       refine aw_true s164_49 ?_
                                       refine aw_seq ?_
                                       refine aw_text (by kernel_rfl) ?_
                                       refine al_ro' (ro_assign ev_c) trivial rfl ?_
                                       refine al_end (fun e_51 he_51 => ?_)
                                       have s6_51 := ef 6 he_51 up_h
                                       clear he_51 s164_49 s3_49 s4_49 s5_49 s7_49 s9_49
                                       refine then_n ?_
                                       refine aw_ret ?_
                                       refine then_r ?_
                                       refine ret1 (.inr rfl) (by kernel_rfl) (resV_tmp s6_51) (.ro _ rfl) ?_
                                       clear s6_51 mo3_28 mo2_28 mo1_28 mo0_28 ml_28
                                       (first | rfl | (have hT : jT ps qs xs = ((0, 0), 11) := (by unfold jT; rw [if_neg (by omega)]); rw [hT]; rfl) | (have hT : jT ps qs xs = (((timW ps (xs.take (ps.length + 1))).1.1 + (timW qs (xs.drop ps.length)).1.1, (timW ps (xs.take (ps.length + 1))).1.2 + (timW qs (xs.drop ps.length)).1.2), 0) := (by unfold jT; rw [if_pos (by omega)]); first | (rw [hT]; simp; done) | (exfalso; have h0 : (jT ps qs xs).2 = 0 := congrArg Prod.snd hT; omega))))
                                  · (first | replace hq_48 := bnt hq_48 | replace hq_48 := bnf hq_48 | replace hq_48 := bt hq_48 | replace hq_48 := bf hq_48 | replace hq_48 := bt' hq_48 | replace hq_48 := bf' hq_48 | skip)
                                    first
                                    | (cases hq_48; done) | (exfalso; omega)
                                    | (
                                       refine ds_ro' (ro_move (up_m rfl (u2 rfl (u4 rfl s10_43)))) ⟨_, rfl, hb_48⟩ rfl ?_
                                       refine ds_ro' (ro_eq (ro_len_row up_h rfl k45_sl22.1) (by first | (simp only [lnS] <;> rfl) | rfl)) ⟨_, rfl, (up_m rfl hb_48)⟩ rfl ?_
                                       refine ds_ro' (ro_fld_ptr k45_fl70_2 rfl (up_m rfl (u8 rfl s5_43))) ⟨_, rfl, (u2 rfl hb_48)⟩ rfl ?_
                                       refine ds_ro' (ro_eq (ro_ld_ptr k45_ty3 rfl mo2_28 up_h (by first | exact Nat.le_of_ble_eq_true rfl | omega | (simp only [lnS] <;> omega) | (simp <;> omega))) (by first | (simp only [packA_t, packA_f, iE, bE, setAt, cellsA, Value.cells, map_vc, map_vn, Nat.reduceAdd, qS, td_m, dr_m, tk_m] <;> rfl) | rfl)) ⟨_, rfl, (up_m rfl (u2 rfl hb_48))⟩ rfl ?_
                                       first | (refine ds_ro' (ro_add' up_h ev_c ?_) ⟨_, rfl, (u4 rfl hb_48)⟩ rfl ?_; · (unfold In64; omega)) | refine ds_ro' (ro_add up_h ev_c) ⟨_, rfl, (u4 rfl hb_48)⟩ rfl ?_
                                       refine ds_ro' (ro_neq (up_m rfl (u2 rfl up_h)) up_h) ⟨_, rfl, (up_m rfl (u4 rfl hb_48))⟩ rfl ?_
                                       refine ds_ro' (ro_pickF (u2 rfl (u4 rfl hb_48)) up_h) trivial rfl ?_
                                       refine ds_ro' (ro_move up_h) trivial rfl ?_
                                       refine ds_case up_h (fun hb_52 hq_52 => ?_) (fun hb_52 hq_52 => ?_)
                                       · (first | replace hq_52 := bnt hq_52 | replace hq_52 := bnf hq_52 | replace hq_52 := bt hq_52 | replace hq_52 := bf hq_52 | replace hq_52 := bt' hq_52 | replace hq_52 := bf' hq_52 | skip)
                                         first
                                         | (cases hq_52; done) | (exfalso; omega)
                                         | (
                                            refine ds_skip' ⟨_, rfl, .inl hb_52⟩ rfl ?_
                                            refine ds_skip' ⟨_, rfl, .inl (up_m rfl hb_52)⟩ rfl ?_
                                            refine ds_skip' ⟨_, rfl, .inl (u2 rfl hb_52)⟩ rfl ?_
                                            refine ds_skip' ⟨_, rfl, .inl (up_m rfl (u2 rfl hb_52))⟩ rfl ?_
                                            refine ds_skip' ⟨_, rfl, .inl (u4 rfl hb_52)⟩ rfl ?_
                                            refine ds_skip' ⟨_, rfl, .inl (up_m rfl (u4 rfl hb_52))⟩ rfl ?_
                                            refine ds_skip' ⟨_, rfl, .inl (u2 rfl (u4 rfl hb_52))⟩ rfl ?_
                                            refine ds_skip' ⟨_, rfl, .inl (up_m rfl (u2 rfl (u4 rfl hb_52)))⟩ rfl ?_
                                            refine ds_ro' (ro_pickT (u8 rfl hb_52) ev_c) trivial rfl ?_
                                            refine ds_ro' (ro_move up_h) trivial rfl ?_
                                            refine ds_skip' ⟨_, rfl, .inl up_h⟩ rfl ?_
                                            refine ds_skip' ⟨_, rfl, .inl (up_m rfl up_h)⟩ rfl ?_
                                            refine ds_skip' ⟨_, rfl, .inl (u2 rfl up_h)⟩ rfl ?_
                                            refine ds_skip' ⟨_, rfl, .inl (up_m rfl (u2 rfl up_h))⟩ rfl ?_
                                            refine ds_skip' ⟨_, rfl, .inl (u4 rfl up_h)⟩ rfl ?_
                                            refine ds_skip' ⟨_, rfl, .inl (up_m rfl (u4 rfl up_h))⟩ rfl ?_
                                            refine ds_skip' ⟨_, rfl, .inl (u2 rfl (u4 rfl up_h))⟩ rfl ?_
                                            refine ds_skip' ⟨_, rfl, .inl (up_m rfl (u2 rfl (u4 rfl up_h)))⟩ rfl ?_
                                            refine ds_ro' (ro_pickT (u8 rfl up_h) ev_c) trivial rfl ?_
                                            refine ds_nil ?_
                                            refine al_end (fun e_53 he_53 => ?_)
                                            have s3_53 := ef 3 he_53 (u2 rfl (u16 rfl (u16 rfl s3_43)))
                                            have s4_53 := ef 4 he_53 (u2 rfl (u16 rfl (u16 rfl s4_43)))
                                            have s5_53 := ef 5 he_53 (u2 rfl (u16 rfl (u16 rfl s5_43)))
                                            have s7_53 := ef 7 he_53 (u2 rfl (u16 rfl (u16 rfl s7_43)))
                                            have s9_53 := ef 9 he_53 (u2 rfl (u16 rfl (u16 rfl s9_43)))
                                            have s164_53 := ef 164 he_53 up_h
                                            clear he_53 hb_44 hb_48 hb_52 s10_43 s11_43 s12_43 s13_43 s3_43 s4_43 s5_43 s7_43 s9_43
                                            refine then_n ?_
                                            refine aw_true s164_53 ?_
                                            refine aw_seq ?_
                                            refine aw_text (by kernel_rfl) ?_
                                            refine al_ro' (ro_assign ev_c) trivial rfl ?_
                                            refine al_end (fun e_55 he_55 => ?_)
                                            have s6_55 := ef 6 he_55 up_h
                                            clear he_55 s164_53 s3_53 s4_53 s5_53 s7_53 s9_53
                                            refine then_n ?_
                                            refine aw_ret ?_
                                            refine then_r ?_
                                            refine ret1 (.inr rfl) (by kernel_rfl) (resV_tmp s6_55) (.ro _ rfl) ?_
                                            clear s6_55 mo3_28 mo2_28 mo1_28 mo0_28 ml_28
                                            (first | rfl | (have hT : jT ps qs xs = ((0, 0), 11) := (by unfold jT; rw [if_neg (by omega)]); rw [hT]; rfl) | (have hT : jT ps qs xs = (((timW ps (xs.take (ps.length + 1))).1.1 + (timW qs (xs.drop ps.length)).1.1, (timW ps (xs.take (ps.length + 1))).1.2 + (timW qs (xs.drop ps.length)).1.2), 0) := (by unfold jT; rw [if_pos (by omega)]); first | (rw [hT]; simp; done) | (exfalso; have h0 : (jT ps qs xs).2 = 0 := congrArg Prod.snd hT; omega))))
                                       · (first | replace hq_52 := bnt hq_52 | replace hq_52 := bnf hq_52 | replace hq_52 := bt hq_52 | replace hq_52 := bf hq_52 | replace hq_52 := bt' hq_52 | replace hq_52 := bf' hq_52 | skip)
                                         first
                                         | (cases hq_52; done) | (exfalso; omega)
                                         | (
                                            refine ds_ro' (ro_move (up_m rfl (u2 rfl (u4 rfl (u8 rfl s12_43))))) ⟨_, rfl, hb_52⟩ rfl ?_
                                            refine ds_ro' (ro_eq (ro_len_row up_h rfl k45_sl22.1) (by first | (simp only [lnS] <;> rfl) | rfl)) ⟨_, rfl, (up_m rfl hb_52)⟩ rfl ?_
                                            refine ds_ro' (ro_move (up_m rfl (u16 rfl s9_43))) ⟨_, rfl, (u2 rfl hb_52)⟩ rfl ?_
                                            refine ds_ro' (ro_fld_ptr k45_fl70_2 rfl (u2 rfl (u16 rfl s5_43))) ⟨_, rfl, (up_m rfl (u2 rfl hb_52))⟩ rfl ?_
                                            refine ds_ro' (ro_eq (ro_ld_ptr k45_ty3 rfl mo2_28 up_h (by first | exact Nat.le_of_ble_eq_true rfl | omega | (simp only [lnS] <;> omega) | (simp <;> omega))) (by first | (simp only [packA_t, packA_f, iE, bE, setAt, cellsA, Value.cells, map_vc, map_vn, Nat.reduceAdd, qS, td_m, dr_m, tk_m] <;> rfl) | rfl)) ⟨_, rfl, (u4 rfl hb_52)⟩ rfl ?_
                                            first | (refine ds_ro' (ro_add' (u2 rfl up_h) up_h ?_) ⟨_, rfl, (up_m rfl (u4 rfl hb_52))⟩ rfl ?_; · (unfold In64; omega)) | refine ds_ro' (ro_add (u2 rfl up_h) up_h) ⟨_, rfl, (up_m rfl (u4 rfl hb_52))⟩ rfl ?_
                                            first | (refine ds_ro' (ro_add' up_h ev_c ?_) ⟨_, rfl, (u2 rfl (u4 rfl hb_52))⟩ rfl ?_; · (unfold In64; omega)) | refine ds_ro' (ro_add up_h ev_c) ⟨_, rfl, (u2 rfl (u4 rfl hb_52))⟩ rfl ?_
                                            refine ds_ro' (ro_neq (up_m rfl (u4 rfl up_h)) up_h) ⟨_, rfl, (up_m rfl (u2 rfl (u4 rfl hb_52)))⟩ rfl ?_
                                            refine ds_ro' (ro_pickF (u8 rfl hb_52) up_h) trivial rfl ?_
                                            refine ds_ro' (ro_move up_h) trivial rfl ?_
                                            refine ds_case up_h (fun hb_56 hq_56 => ?_) (fun hb_56 hq_56 => ?_)
                                            · (first | replace hq_56 := bnt hq_56 | replace hq_56 := bnf hq_56 | replace hq_56 := bt hq_56 | replace hq_56 := bf hq_56 | replace hq_56 := bt' hq_56 | replace hq_56 := bf' hq_56 | skip)
                                              first
                                              | (cases hq_56; done) | (exfalso; omega)
                                              | (
                                                 refine ds_skip' ⟨_, rfl, .inl hb_56⟩ rfl ?_
                                                 refine ds_skip' ⟨_, rfl, .inl (up_m rfl hb_56)⟩ rfl ?_
                                                 refine ds_skip' ⟨_, rfl, .inl (u2 rfl hb_56)⟩ rfl ?_
                                                 refine ds_skip' ⟨_, rfl, .inl (up_m rfl (u2 rfl hb_56))⟩ rfl ?_
                                                 refine ds_skip' ⟨_, rfl, .inl (u4 rfl hb_56)⟩ rfl ?_
                                                 refine ds_skip' ⟨_, rfl, .inl (up_m rfl (u4 rfl hb_56))⟩ rfl ?_
                                                 refine ds_skip' ⟨_, rfl, .inl (u2 rfl (u4 rfl hb_56))⟩ rfl ?_
                                                 refine ds_skip' ⟨_, rfl, .inl (up_m rfl (u2 rfl (u4 rfl hb_56)))⟩ rfl ?_
                                                 refine ds_ro' (ro_pickT (u8 rfl hb_56) ev_c) trivial rfl ?_
                                                 refine ds_nil ?_
                                                 refine al_end (fun e_57 he_57 => ?_)
                                                 have s3_57 := ef 3 he_57 (u2 rfl (u16 rfl (u16 rfl s3_43)))
                                                 have s4_57 := ef 4 he_57 (u2 rfl (u16 rfl (u16 rfl s4_43)))
                                                 have s5_57 := ef 5 he_57 (u2 rfl (u16 rfl (u16 rfl s5_43)))
                                                 have s7_57 := ef 7 he_57 (u2 rfl (u16 rfl (u16 rfl s7_43)))
                                                 have s9_57 := ef 9 he_57 (u2 rfl (u16 rfl (u16 rfl s9_43)))
                                                 have s164_57 := ef 164 he_57 up_h
                                                 clear he_57 hb_44 hb_48 hb_52 hb_56 s10_43 s11_43 s12_43 s13_43 s3_43 s4_43 s5_43 s7_43 s9_43
                                                 refine then_n ?_
                                                 refine aw_true s164_57 ?_
                                                 refine aw_seq ?_
                                                 refine aw_text (by kernel_rfl) ?_
                                                 refine al_ro' (ro_assign ev_c) trivial rfl ?_
                                                 refine al_end (fun e_59 he_59 => ?_)
                                                 have s6_59 := ef 6 he_59 up_h
                                                 clear he_59 s164_57 s3_57 s4_57 s5_57 s7_57 s9_57
                                                 refine then_n ?_
                                                 refine aw_ret ?_
                                                 refine then_r ?_
                                                 refine ret1 (.inr rfl) (by kernel_rfl) (resV_tmp s6_59) (.ro _ rfl) ?_
                                                 clear s6_59 mo3_28 mo2_28 mo1_28 mo0_28 ml_28
                                                 (first | rfl | (have hT : jT ps qs xs = ((0, 0), 11) := (by unfold jT; rw [if_neg (by omega)]); rw [hT]; rfl) | (have hT : jT ps qs xs = (((timW ps (xs.take (ps.length + 1))).1.1 + (timW qs (xs.drop ps.length)).1.1, (timW ps (xs.take (ps.length + 1))).1.2 + (timW qs (xs.drop ps.length)).1.2), 0) := (by unfold jT; rw [if_pos (by omega)]); first | (rw [hT]; simp; done) | (exfalso; have h0 : (jT ps qs xs).2 = 0 := congrArg Prod.snd hT; omega))))
                                            · (first | replace hq_56 := bnt hq_56 | replace hq_56 := bnf hq_56 | replace hq_56 := bt hq_56 | replace hq_56 := bf hq_56 | replace hq_56 := bt' hq_56 | replace hq_56 := bf' hq_56 | skip)
                                              first
                                              | (cases hq_56; done) | (exfalso; omega)
                                              | (
                                                 refine ds_ro' (ro_move (up_m rfl (u8 rfl (u16 rfl s10_43)))) ⟨_, rfl, hb_56⟩ rfl ?_
                                                 refine ds_ro' (ro_sll k45_sl22 up_h ev_c (by first | decide | omega | (simp <;> omega)) (by first | exact Nat.le_of_ble_eq_true rfl | omega | (simp only [lnS] <;> omega) | (simp <;> omega))) ⟨_, rfl, (up_m rfl hb_56)⟩ rfl ?_
                                                 refine ds_ro' (ro_move (up_m rfl (u2 rfl (u8 rfl (u16 rfl s12_43))))) ⟨_, rfl, (u2 rfl hb_56)⟩ rfl ?_
                                                 refine ds_ro' (ro_move (u4 rfl (u8 rfl (u16 rfl s9_43)))) ⟨_, rfl, (up_m rfl (u2 rfl hb_56))⟩ rfl ?_
                                                 first | (refine ds_ro' (ro_add' up_h ev_c ?_) ⟨_, rfl, (u4 rfl hb_56)⟩ rfl ?_; · (unfold In64; omega)) | refine ds_ro' (ro_add up_h ev_c) ⟨_, rfl, (u4 rfl hb_56)⟩ rfl ?_
                                                 refine ds_ro' (ro_sll k45_sl22 (u2 rfl up_h) up_h (by first | decide | omega | (simp <;> omega)) (by first | exact Nat.le_of_ble_eq_true rfl | omega | (simp only [lnS] <;> omega) | (simp <;> omega))) ⟨_, rfl, (up_m rfl (u4 rfl hb_56))⟩ rfl ?_
                                                 refine ds_ro' (ro_call (evL_cons (u4 rfl up_h) (evL_cons up_h evL_nil)) rfl (intsJ_ok (by omega) (by rfl) (by omega) (by omega)) k45_hcf35) ⟨_, rfl, (u2 rfl (u4 rfl hb_56))⟩ rfl ?_
                                                 refine ds_ro' (ro_not up_h) ⟨_, rfl, (up_m rfl (u2 rfl (u4 rfl hb_56)))⟩ rfl ?_
                                                 refine ds_ro' (ro_pickF (u8 rfl hb_56) up_h) trivial rfl ?_
                                                 refine ds_nil ?_
                                                 refine al_end (fun e_60 he_60 => ?_)
                                                 have s3_60 := ef 3 he_60 (u2 rfl (u16 rfl (u16 rfl s3_43)))
                                                 have s4_60 := ef 4 he_60 (u2 rfl (u16 rfl (u16 rfl s4_43)))
                                                 have s5_60 := ef 5 he_60 (u2 rfl (u16 rfl (u16 rfl s5_43)))
                                                 have s7_60 := ef 7 he_60 (u2 rfl (u16 rfl (u16 rfl s7_43)))
                                                 have s9_60 := ef 9 he_60 (u2 rfl (u16 rfl (u16 rfl s9_43)))
                                                 have s164_60 := ef 164 he_60 up_h
                                                 clear he_60 hb_44 hb_48 hb_52 hb_56 s10_43 s11_43 s12_43 s13_43 s3_43 s4_43 s5_43 s7_43 s9_43
                                                 refine then_n ?_
                                                 refine aw_case s164_60 (fun hq_61 => ?_) (fun hq_61 => ?_)
                                                 · (first | replace hq_61 := bnt hq_61 | replace hq_61 := bnf hq_61 | replace hq_61 := bt hq_61 | replace hq_61 := bf hq_61 | replace hq_61 := bt' hq_61 | replace hq_61 := bf' hq_61 | skip)
                                                   first
                                                   | (cases hq_61; done) | (exfalso; omega)
                                                   | (
                                                      refine aw_seq ?_
                                                      refine aw_text (by kernel_rfl) ?_
                                                      refine al_ro' (ro_assign ev_c) trivial rfl ?_
                                                      refine al_end (fun e_62 he_62 => ?_)
                                                      have s6_62 := ef 6 he_62 up_h
                                                      clear he_62 s164_60 s3_60 s4_60 s5_60 s7_60 s9_60
                                                      refine then_n ?_
                                                      refine aw_ret ?_
                                                      refine then_r ?_
                                                      refine ret1 (.inr rfl) (by kernel_rfl) (resV_tmp s6_62) (.ro _ rfl) ?_
                                                      clear s6_62 mo3_28 mo2_28 mo1_28 mo0_28 ml_28
                                                      (first | rfl | (have hT : jT ps qs xs = ((0, 0), 11) := (by unfold jT; rw [if_neg (by omega)]); rw [hT]; rfl) | (have hT : jT ps qs xs = (((timW ps (xs.take (ps.length + 1))).1.1 + (timW qs (xs.drop ps.length)).1.1, (timW ps (xs.take (ps.length + 1))).1.2 + (timW qs (xs.drop ps.length)).1.2), 0) := (by unfold jT; rw [if_pos (by omega)]); first | (rw [hT]; simp; done) | (exfalso; have h0 : (jT ps qs xs).2 = 0 := congrArg Prod.snd hT; omega))))
                                                 · (first | replace hq_61 := bnt hq_61 | replace hq_61 := bnf hq_61 | replace hq_61 := bt hq_61 | replace hq_61 := bf hq_61 | replace hq_61 := bt' hq_61 | replace hq_61 := bf' hq_61 | skip)
                                                   first
                                                   | (cases hq_61; done) | (exfalso; omega)
                                                   | (
                                                      refine aw_skip ?_
                                                      refine then_n ?_
                                                      refine aw_seq ?_
                                                      refine aw_draw 14 (by kernel_rfl) (by kernel_rfl) (by kernel_rfl) (by kernel_rfl) ?_
                                                      refine ds_ro' (ro_eq (ro_ld_ptr k45_ty51 rfl mo1_28 s4_60 (by first | exact Nat.le_of_ble_eq_true rfl | omega | (simp only [lnS] <;> omega) | (simp <;> omega))) (by first | (simp only [packA_t, packA_f, iE, bE, setAt, cellsA, Value.cells, map_vc, map_vn, Nat.reduceAdd, qS, td_m, dr_m, tk_m] <;> rfl) | rfl)) trivial rfl ?_
                                                      first | refine ds_ro' (ro_call (evL_cons up_h evL_nil) rfl (rCopy_ok na ps (by omega)) k45_hcf21) trivial rfl ?_ | refine ds_ro' (ro_call (evL_cons up_h evL_nil) rfl (rCopy_ok nb qs (by omega)) k45_hcf21) trivial rfl ?_ | refine ds_ro' (ro_call (evL_cons up_h evL_nil) rfl (rCopy_ok na (ps ++ qs) (by omega)) k45_hcf21) trivial rfl ?_
                                                      refine ds_ro' (ro_fld_ptr k45_fl70_0 rfl (u2 rfl s5_60)) trivial rfl ?_
                                                      refine ds_ro' (ro_eq (ro_ld_ptr k45_ty53 rfl mo2_28 up_h (by first | exact Nat.le_of_ble_eq_true rfl | omega | (simp only [lnS] <;> omega) | (simp <;> omega))) (by first | (simp only [packA_t, packA_f, iE, bE, setAt, cellsA, Value.cells, map_vc, map_vn, Nat.reduceAdd, qS, td_m, dr_m, tk_m] <;> rfl) | rfl)) trivial rfl ?_
                                                      refine ds_ro' (ro_fld_ptr k45_fl70_1 rfl (u4 rfl s5_60)) trivial rfl ?_
                                                      refine ds_ro' (ro_eq (ro_ld_ptr k45_ty68 rfl mo2_28 up_h (by first | exact Nat.le_of_ble_eq_true rfl | omega | (simp only [lnS] <;> omega) | (simp <;> omega))) (by first | (simp only [packA_t, packA_f, iE, bE, setAt, cellsA, Value.cells, map_vc, map_vn, Nat.reduceAdd, qS, td_m, dr_m, tk_m] <;> rfl) | rfl)) trivial rfl ?_
                                                      refine ds_ro' (ro_fld_ptr k45_fl70_2 rfl (u2 rfl (u4 rfl s5_60))) trivial rfl ?_
                                                      refine ds_ro' (ro_eq (ro_ld_ptr k45_ty3 rfl mo2_28 up_h (by first | exact Nat.le_of_ble_eq_true rfl | omega | (simp only [lnS] <;> omega) | (simp <;> omega))) (by first | (simp only [packA_t, packA_f, iE, bE, setAt, cellsA, Value.cells, map_vc, map_vn, Nat.reduceAdd, qS, td_m, dr_m, tk_m] <;> rfl) | rfl)) trivial rfl ?_
                                                      refine ds_ro' (ro_call (evL_cons (u2 rfl (u4 rfl up_h)) (evL_cons (u4 rfl up_h) (evL_cons (u2 rfl up_h) (evL_cons up_h evL_nil)))) rfl (runTo3_ok (by omega) (by omega) hr1) k45_hcf36) trivial rfl ?_
                                                      refine ds_ro' (ro_move up_h) trivial rfl ?_
                                                      refine ds_ro' (ro_extract up_h rfl) trivial rfl ?_
                                                      refine ds_ro' (ro_extract (up_m rfl up_h) rfl) trivial rfl ?_
                                                      refine ds_ro' (ro_assign (up_m rfl up_h)) trivial rfl ?_
                                                      refine ds_ro' (ro_assign (up_m rfl up_h)) trivial rfl ?_
                                                      refine ds_nil ?_
                                                      refine al_end (fun e_63 he_63 => ?_)
                                                      have s3_63 := ef 3 he_63 (u2 rfl (u4 rfl (u8 rfl s3_60)))
                                                      have s4_63 := ef 4 he_63 (u2 rfl (u4 rfl (u8 rfl s4_60)))
                                                      have s5_63 := ef 5 he_63 (u2 rfl (u4 rfl (u8 rfl s5_60)))
                                                      have s7_63 := ef 7 he_63 (u2 rfl (u4 rfl (u8 rfl s7_60)))
                                                      have s9_63 := ef 9 he_63 (u2 rfl (u4 rfl (u8 rfl s9_60)))
                                                      have s14_63 := ef 14 he_63 (up_m rfl up_h)
                                                      have s15_63 := ef 15 he_63 up_h
                                                      clear he_63 s164_60 s3_60 s4_60 s5_60 s7_60 s9_60
                                                      refine then_n ?_
                                                      refine aw_seq ?_
                                                      refine aw_draw 23 (by kernel_rfl) (by kernel_rfl) (by kernel_rfl) (by kernel_rfl) ?_
                                                      refine ds_ro' (ro_eq (ro_ld_ptr k45_ty51 rfl mo3_28 s7_63 (by first | exact Nat.le_of_ble_eq_true rfl | omega | (simp only [lnS] <;> omega) | (simp <;> omega))) (by first | (simp only [packA_t, packA_f, iE, bE, setAt, cellsA, Value.cells, map_vc, map_vn, Nat.reduceAdd, qS, td_m, dr_m, tk_m] <;> rfl) | rfl)) trivial rfl ?_
                                                      first | refine ds_ro' (ro_call (evL_cons up_h evL_nil) rfl (rCopy_ok na ps (by omega)) k45_hcf21) trivial rfl ?_ | refine ds_ro' (ro_call (evL_cons up_h evL_nil) rfl (rCopy_ok nb qs (by omega)) k45_hcf21) trivial rfl ?_ | refine ds_ro' (ro_call (evL_cons up_h evL_nil) rfl (rCopy_ok na (ps ++ qs) (by omega)) k45_hcf21) trivial rfl ?_
                                                      refine ds_ro' (ro_fld_ptr k45_fl70_0 rfl (u2 rfl s5_63)) trivial rfl ?_
                                                      refine ds_ro' (ro_eq (ro_ld_ptr k45_ty53 rfl mo2_28 up_h (by first | exact Nat.le_of_ble_eq_true rfl | omega | (simp only [lnS] <;> omega) | (simp <;> omega))) (by first | (simp only [packA_t, packA_f, iE, bE, setAt, cellsA, Value.cells, map_vc, map_vn, Nat.reduceAdd, qS, td_m, dr_m, tk_m] <;> rfl) | rfl)) trivial rfl ?_
                                                      refine ds_ro' (ro_move (u4 rfl s9_63)) trivial rfl ?_
                                                      refine ds_ro' (ro_fld_ptr k45_fl70_1 rfl (up_m rfl (u4 rfl s5_63))) trivial rfl ?_
                                                      refine ds_ro' (ro_fld_ptr k45_fl68_0 rfl up_h) trivial rfl ?_
                                                      refine ds_ro' (ro_eq (ro_ld_ptr k45_ty3 rfl mo2_28 up_h (by first | exact Nat.le_of_ble_eq_true rfl | omega | (simp only [lnS] <;> omega) | (simp <;> omega))) (by first | (simp only [packA_t, packA_f, iE, bE, setAt, cellsA, Value.cells, map_vc, map_vn, Nat.reduceAdd, qS, td_m, dr_m, tk_m] <;> rfl) | rfl)) trivial rfl ?_
                                                      first | (refine ds_ro' (ro_add' (up_m rfl (u2 rfl up_h)) up_h ?_) trivial rfl ?_; · (unfold In64; omega)) | refine ds_ro' (ro_add (up_m rfl (u2 rfl up_h)) up_h) trivial rfl ?_
                                                      refine ds_ro' (ro_fld_ptr k45_fl70_1 rfl (up_m rfl (u8 rfl s5_63))) trivial rfl ?_
                                                      refine ds_ro' (ro_fld_ptr k45_fl68_1 rfl up_h) trivial rfl ?_
                                                      refine ds_ro' (ro_eq (ro_ld_ptr k45_ty3 rfl mo2_28 up_h (by first | exact Nat.le_of_ble_eq_true rfl | omega | (simp only [lnS] <;> omega) | (simp <;> omega))) (by first | (simp only [packA_t, packA_f, iE, bE, setAt, cellsA, Value.cells, map_vc, map_vn, Nat.reduceAdd, qS, td_m, dr_m, tk_m] <;> rfl) | rfl)) trivial rfl ?_
                                                      refine ds_ro' (ro_build (evP_cons (up_m rfl (u2 rfl up_h)) (evP_cons up_h evP_nil)) k45_bz68 k45_bu68 k45_bp68 rfl) trivial rfl ?_
                                                      refine ds_ro' (ro_move (up_m rfl (u4 rfl (u8 rfl s9_63)))) trivial rfl ?_
                                                      refine ds_ro' (ro_fld_ptr k45_fl70_2 rfl (u2 rfl (u4 rfl (u8 rfl s5_63)))) trivial rfl ?_
                                                      refine ds_ro' (ro_eq (ro_ld_ptr k45_ty3 rfl mo2_28 up_h (by first | exact Nat.le_of_ble_eq_true rfl | omega | (simp only [lnS] <;> omega) | (simp <;> omega))) (by first | (simp only [packA_t, packA_f, iE, bE, setAt, cellsA, Value.cells, map_vc, map_vn, Nat.reduceAdd, qS, td_m, dr_m, tk_m] <;> rfl) | rfl)) trivial rfl ?_
                                                      first | (refine ds_ro' (ro_add' (u2 rfl up_h) up_h ?_) trivial rfl ?_; · (unfold In64; omega)) | refine ds_ro' (ro_add (u2 rfl up_h) up_h) trivial rfl ?_
                                                      refine ds_ro' (ro_call (evL_cons (up_m rfl (u2 rfl (u4 rfl (u8 rfl up_h)))) (evL_cons (up_m rfl (u4 rfl (u8 rfl up_h))) (evL_cons (u4 rfl up_h) (evL_cons up_h evL_nil)))) rfl ((runTo3_ok (by omega) (by omega) hr2).mono (fun q h => h.trans (by rw [hrw]))) k45_hcf36) trivial rfl ?_
                                                      refine ds_ro' (ro_move up_h) trivial rfl ?_
                                                      refine ds_ro' (ro_extract up_h rfl) trivial rfl ?_
                                                      refine ds_ro' (ro_extract (up_m rfl up_h) rfl) trivial rfl ?_
                                                      refine ds_ro' (ro_assign (up_m rfl up_h)) trivial rfl ?_
                                                      refine ds_ro' (ro_assign (up_m rfl up_h)) trivial rfl ?_
                                                      refine ds_nil ?_
                                                      refine al_end (fun e_64 he_64 => ?_)
                                                      have s3_64 := ef 3 he_64 (up_m rfl (u2 rfl (u4 rfl (u16 rfl s3_63))))
                                                      have s4_64 := ef 4 he_64 (up_m rfl (u2 rfl (u4 rfl (u16 rfl s4_63))))
                                                      have s5_64 := ef 5 he_64 (up_m rfl (u2 rfl (u4 rfl (u16 rfl s5_63))))
                                                      have s7_64 := ef 7 he_64 (up_m rfl (u2 rfl (u4 rfl (u16 rfl s7_63))))
                                                      have s9_64 := ef 9 he_64 (up_m rfl (u2 rfl (u4 rfl (u16 rfl s9_63))))
                                                      have s14_64 := ef 14 he_64 (up_m rfl (u2 rfl (u4 rfl (u16 rfl s14_63))))
                                                      have s15_64 := ef 15 he_64 (up_m rfl (u2 rfl (u4 rfl (u16 rfl s15_63))))
                                                      have s16_64 := ef 16 he_64 (up_m rfl up_h)
                                                      have s17_64 := ef 17 he_64 up_h
                                                      clear he_64 s14_63 s15_63 s3_63 s4_63 s5_63 s7_63 s9_63
                                                      refine then_n ?_
                                                      refine aw_seq ?_
                                                      refine aw_seq ?_
                                                      refine aw_text (by kernel_rfl) ?_
                                                      refine al_ro' (ro_move s15_64) trivial rfl ?_
                                                      refine al_ro' (ro_move (up_m rfl s17_64)) trivial rfl ?_
                                                      refine al_ro' (ro_neq (up_m rfl up_h) up_h) trivial rfl ?_
                                                      refine al_ro' (ro_move up_h) trivial rfl ?_
                                                      refine al_case up_h (fun hb_65 hq_65 => ?_) (fun hb_65 hq_65 => ?_)
                                                      · (first | replace hq_65 := bnt hq_65 | replace hq_65 := bnf hq_65 | replace hq_65 := bt hq_65 | replace hq_65 := bf hq_65 | replace hq_65 := bt' hq_65 | replace hq_65 := bf' hq_65 | skip)
                                                        first
                                                        | (cases hq_65; done) | (exfalso; omega)
                                                        | (
                                                           refine al_skip' ⟨_, rfl, .inl hb_65⟩ rfl ?_
                                                           refine al_skip' ⟨_, rfl, .inl (up_m rfl hb_65)⟩ rfl ?_
                                                           refine al_skip' ⟨_, rfl, .inl (u2 rfl hb_65)⟩ rfl ?_
                                                           refine al_skip' ⟨_, rfl, .inl (up_m rfl (u2 rfl hb_65))⟩ rfl ?_
                                                           refine al_ro' (ro_pickT (u4 rfl hb_65) ev_c) trivial rfl ?_
                                                           refine al_end (fun e_66 he_66 => ?_)
                                                           have s3_66 := ef 3 he_66 (up_m rfl (u8 rfl s3_64))
                                                           have s4_66 := ef 4 he_66 (up_m rfl (u8 rfl s4_64))
                                                           have s5_66 := ef 5 he_66 (up_m rfl (u8 rfl s5_64))
                                                           have s7_66 := ef 7 he_66 (up_m rfl (u8 rfl s7_64))
                                                           have s9_66 := ef 9 he_66 (up_m rfl (u8 rfl s9_64))
                                                           have s206_66 := ef 206 he_66 up_h
                                                           clear he_66 hb_65 s14_64 s15_64 s16_64 s17_64 s3_64 s4_64 s5_64 s7_64 s9_64
                                                           refine then_n ?_
                                                           refine aw_true s206_66 ?_
                                                           refine aw_seq ?_
                                                           refine aw_text (by kernel_rfl) ?_
                                                           refine al_ro' (ro_assign ev_c) trivial rfl ?_
                                                           refine al_end (fun e_68 he_68 => ?_)
                                                           have s6_68 := ef 6 he_68 up_h
                                                           clear he_68 s206_66 s3_66 s4_66 s5_66 s7_66 s9_66
                                                           refine then_n ?_
                                                           refine aw_ret ?_
                                                           refine then_r ?_
                                                           refine ret1 (.inr rfl) (by kernel_rfl) (resV_tmp s6_68) (.ro _ rfl) ?_
                                                           clear s6_68 mo3_28 mo2_28 mo1_28 mo0_28 ml_28
                                                           (first | rfl | (have hT : jT ps qs xs = ((0, 0), 11) := (by unfold jT; rw [if_neg (by omega)]); rw [hT]; rfl) | (have hT : jT ps qs xs = (((timW ps (xs.take (ps.length + 1))).1.1 + (timW qs (xs.drop ps.length)).1.1, (timW ps (xs.take (ps.length + 1))).1.2 + (timW qs (xs.drop ps.length)).1.2), 0) := (by unfold jT; rw [if_pos (by omega)]); first | (rw [hT]; simp; done) | (exfalso; have h0 : (jT ps qs xs).2 = 0 := congrArg Prod.snd hT; omega))))
                                                      · (first | replace hq_65 := bnt hq_65 | replace hq_65 := bnf hq_65 | replace hq_65 := bt hq_65 | replace hq_65 := bf hq_65 | replace hq_65 := bt' hq_65 | replace hq_65 := bf' hq_65 | skip)
                                                        first
                                                        | (cases hq_65; done) | (exfalso; omega)
                                                        | (
                                                           refine al_ro' (ro_move (u4 rfl s14_64)) ⟨_, rfl, hb_65⟩ rfl ?_
                                                           refine al_ro' (ro_move (up_m rfl (u4 rfl s16_64))) ⟨_, rfl, (up_m rfl hb_65)⟩ rfl ?_
                                                           refine al_ro' (ro_call (evL_cons (up_m rfl up_h) (evL_cons up_h evL_nil)) rfl (same_ok _ (by omega)) k45_hcf35) ⟨_, rfl, (u2 rfl hb_65)⟩ rfl ?_
                                                           refine al_ro' (ro_not up_h) ⟨_, rfl, (up_m rfl (u2 rfl hb_65))⟩ rfl ?_
                                                           refine al_ro' (ro_pickF (u4 rfl hb_65) up_h) trivial rfl ?_
                                                           refine al_end (fun e_69 he_69 => ?_)
                                                           have s3_69 := ef 3 he_69 (up_m rfl (u8 rfl s3_64))
                                                           have s4_69 := ef 4 he_69 (up_m rfl (u8 rfl s4_64))
                                                           have s5_69 := ef 5 he_69 (up_m rfl (u8 rfl s5_64))
                                                           have s7_69 := ef 7 he_69 (up_m rfl (u8 rfl s7_64))
                                                           have s9_69 := ef 9 he_69 (up_m rfl (u8 rfl s9_64))
                                                           have s206_69 := ef 206 he_69 up_h
                                                           clear he_69 hb_65 s14_64 s15_64 s16_64 s17_64 s3_64 s4_64 s5_64 s7_64 s9_64
                                                           refine then_n ?_
                                                           refine aw_case s206_69 (fun hq_70 => ?_) (fun hq_70 => ?_)
                                                           · (first | replace hq_70 := bnt hq_70 | replace hq_70 := bnf hq_70 | replace hq_70 := bt hq_70 | replace hq_70 := bf hq_70 | replace hq_70 := bt' hq_70 | replace hq_70 := bf' hq_70 | skip)
                                                             first
                                                             | (cases hq_70; done) | (exfalso; omega)
                                                             | (
                                                                refine aw_seq ?_
                                                                refine aw_text (by kernel_rfl) ?_
                                                                refine al_ro' (ro_assign ev_c) trivial rfl ?_
                                                                refine al_end (fun e_71 he_71 => ?_)
                                                                have s6_71 := ef 6 he_71 up_h
                                                                clear he_71 s206_69 s3_69 s4_69 s5_69 s7_69 s9_69
                                                                refine then_n ?_
                                                                refine aw_ret ?_
                                                                refine then_r ?_
                                                                refine ret1 (.inr rfl) (by kernel_rfl) (resV_tmp s6_71) (.ro _ rfl) ?_
                                                                clear s6_71 mo3_28 mo2_28 mo1_28 mo0_28 ml_28
                                                                (first | rfl | (have hT : jT ps qs xs = ((0, 0), 11) := (by unfold jT; rw [if_neg (by omega)]); rw [hT]; rfl) | (have hT : jT ps qs xs = (((timW ps (xs.take (ps.length + 1))).1.1 + (timW qs (xs.drop ps.length)).1.1, (timW ps (xs.take (ps.length + 1))).1.2 + (timW qs (xs.drop ps.length)).1.2), 0) := (by unfold jT; rw [if_pos (by omega)]); first | (rw [hT]; simp; done) | (exfalso; have h0 : (jT ps qs xs).2 = 0 := congrArg Prod.snd hT; omega))))
                                                           · (first | replace hq_70 := bnt hq_70 | replace hq_70 := bnf hq_70 | replace hq_70 := bt hq_70 | replace hq_70 := bf hq_70 | replace hq_70 := bt' hq_70 | replace hq_70 := bf' hq_70 | skip)
                                                             first
                                                             | (cases hq_70; done) | (exfalso; omega)
                                                             | (
                                                                refine aw_skip ?_
                                                                refine then_n ?_
                                                                refine aw_seq ?_
                                                                refine aw_seq ?_
                                                                refine aw_text (by kernel_rfl) ?_
                                                                refine al_ro' (ro_fld_ptr k45_fl70_3 rfl s5_69) trivial rfl ?_
                                                                refine al_ro' (ro_eq (ro_ld_ptr k45_ty22 rfl mo2_28 up_h (by first | exact Nat.le_of_ble_eq_true rfl | omega | (simp only [lnS] <;> omega) | (simp <;> omega))) (by first | (simp only [packA_t, packA_f, iE, bE, setAt, cellsA, Value.cells, map_vc, map_vn, Nat.reduceAdd, qS, td_m, dr_m, tk_m] <;> rfl) | rfl)) trivial rfl ?_
                                                                refine al_ro' (ro_eq (ro_len_row up_h rfl k45_sl22.1) (by first | (simp only [lnS] <;> rfl) | rfl)) trivial rfl ?_
                                                                refine al_ro' (ro_fld_ptr k45_fl51_1 rfl (up_m rfl (u2 rfl s7_69))) trivial rfl ?_
                                                                refine al_ro' (ro_eq (ro_ld_ptr k45_ty49 rfl mo3_28 up_h (by first | exact Nat.le_of_ble_eq_true rfl | omega | (simp only [lnS] <;> omega) | (simp <;> omega))) (by first | (simp only [packA_t, packA_f, iE, bE, setAt, cellsA, Value.cells, map_vc, map_vn, Nat.reduceAdd, qS, td_m, dr_m, tk_m] <;> rfl) | rfl)) trivial rfl ?_
                                                                refine al_ro' (ro_eq (ro_len_row up_h rfl k45_sl49.1) (by first | (simp only [lnS] <;> rfl) | rfl)) trivial rfl ?_
                                                                first | (refine al_ro' (ro_add' up_h ev_c ?_) trivial rfl ?_; · (unfold In64; omega)) | refine al_ro' (ro_add up_h ev_c) trivial rfl ?_
                                                                refine al_ro' (ro_neq (u4 rfl up_h) up_h) trivial rfl ?_
                                                                refine al_ro' (ro_move up_h) trivial rfl ?_
                                                                refine al_case up_h (fun hb_72 hq_72 => ?_) (fun hb_72 hq_72 => ?_)
                                                                · (first | replace hq_72 := bnt hq_72 | replace hq_72 := bnf hq_72 | replace hq_72 := bt hq_72 | replace hq_72 := bf hq_72 | replace hq_72 := bt' hq_72 | replace hq_72 := bf' hq_72 | skip)
                                                                  first
                                                                  | (cases hq_72; done) | (exfalso; omega)
                                                                  | (
                                                                     refine al_skip' ⟨_, rfl, .inl hb_72⟩ rfl ?_
                                                                     refine al_skip' ⟨_, rfl, .inl (up_m rfl hb_72)⟩ rfl ?_
                                                                     refine al_skip' ⟨_, rfl, .inl (u2 rfl hb_72)⟩ rfl ?_
                                                                     refine al_skip' ⟨_, rfl, .inl (up_m rfl (u2 rfl hb_72))⟩ rfl ?_
                                                                     refine al_skip' ⟨_, rfl, .inl (u4 rfl hb_72)⟩ rfl ?_
                                                                     refine al_ro' (ro_pickT (up_m rfl (u4 rfl hb_72)) ev_c) trivial rfl ?_
                                                                     refine al_end (fun e_73 he_73 => ?_)
                                                                     have s3_73 := ef 3 he_73 (up_m rfl (u2 rfl (u4 rfl (u8 rfl s3_69))))
                                                                     have s4_73 := ef 4 he_73 (up_m rfl (u2 rfl (u4 rfl (u8 rfl s4_69))))
                                                                     have s5_73 := ef 5 he_73 (up_m rfl (u2 rfl (u4 rfl (u8 rfl s5_69))))
                                                                     have s7_73 := ef 7 he_73 (up_m rfl (u2 rfl (u4 rfl (u8 rfl s7_69))))
                                                                     have s9_73 := ef 9 he_73 (up_m rfl (u2 rfl (u4 rfl (u8 rfl s9_69))))
                                                                     have s221_73 := ef 221 he_73 up_h
                                                                     clear he_73 hb_72 s206_69 s3_69 s4_69 s5_69 s7_69 s9_69
                                                                     refine then_n ?_
                                                                     refine aw_true s221_73 ?_
                                                                     refine aw_seq ?_
                                                                     refine aw_text (by kernel_rfl) ?_
                                                                     refine al_ro' (ro_assign ev_c) trivial rfl ?_
                                                                     refine al_end (fun e_75 he_75 => ?_)
                                                                     have s6_75 := ef 6 he_75 up_h
                                                                     clear he_75 s221_73 s3_73 s4_73 s5_73 s7_73 s9_73
                                                                     refine then_n ?_
                                                                     refine aw_ret ?_
                                                                     refine then_r ?_
                                                                     refine ret1 (.inr rfl) (by kernel_rfl) (resV_tmp s6_75) (.ro _ rfl) ?_
                                                                     clear s6_75 mo3_28 mo2_28 mo1_28 mo0_28 ml_28
                                                                     (first | rfl | (have hT : jT ps qs xs = ((0, 0), 11) := (by unfold jT; rw [if_neg (by omega)]); rw [hT]; rfl) | (have hT : jT ps qs xs = (((timW ps (xs.take (ps.length + 1))).1.1 + (timW qs (xs.drop ps.length)).1.1, (timW ps (xs.take (ps.length + 1))).1.2 + (timW qs (xs.drop ps.length)).1.2), 0) := (by unfold jT; rw [if_pos (by omega)]); first | (rw [hT]; simp; done) | (exfalso; have h0 : (jT ps qs xs).2 = 0 := congrArg Prod.snd hT; omega))))
                                                                · (first | replace hq_72 := bnt hq_72 | replace hq_72 := bnf hq_72 | replace hq_72 := bt hq_72 | replace hq_72 := bf hq_72 | replace hq_72 := bt' hq_72 | replace hq_72 := bf' hq_72 | skip)
                                                                  first
                                                                  | (cases hq_72; done) | (exfalso; omega)
                                                                  | (
                                                                     refine al_ro' (ro_eq (ro_ld_ptr k45_ty51 rfl mo3_28 (up_m rfl (u8 rfl s7_69)) (by first | exact Nat.le_of_ble_eq_true rfl | omega | (simp only [lnS] <;> omega) | (simp <;> omega))) (by first | (simp only [packA_t, packA_f, iE, bE, setAt, cellsA, Value.cells, map_vc, map_vn, Nat.reduceAdd, qS, td_m, dr_m, tk_m] <;> rfl) | rfl)) ⟨_, rfl, hb_72⟩ rfl ?_
                                                                     refine al_ro' (ro_fld_ptr k45_fl70_3 rfl (u2 rfl (u8 rfl s5_69))) ⟨_, rfl, (up_m rfl hb_72)⟩ rfl ?_
                                                                     refine al_ro' (ro_eq (ro_ld_ptr k45_ty22 rfl mo2_28 up_h (by first | exact Nat.le_of_ble_eq_true rfl | omega | (simp only [lnS] <;> omega) | (simp <;> omega))) (by first | (simp only [packA_t, packA_f, iE, bE, setAt, cellsA, Value.cells, map_vc, map_vn, Nat.reduceAdd, qS, td_m, dr_m, tk_m] <;> rfl) | rfl)) ⟨_, rfl, (u2 rfl hb_72)⟩ rfl ?_
                                                                     refine al_ro' (ro_call (evL_cons (u2 rfl up_h) (evL_cons up_h evL_nil)) rfl (rSquaresErr_ok xs (by omega) na (ps ++ qs) (by omega)) k45_hcf24) ⟨_, rfl, (up_m rfl (u2 rfl hb_72))⟩ rfl ?_
                                                                     refine al_ro' (ro_neq up_h ev_c) ⟨_, rfl, (u4 rfl hb_72)⟩ rfl ?_
                                                                     refine al_ro' (ro_pickF (up_m rfl (u4 rfl hb_72)) up_h) trivial rfl ?_
                                                                     refine al_end (fun e_76 he_76 => ?_)
                                                                     have s3_76 := ef 3 he_76 (up_m rfl (u2 rfl (u4 rfl (u8 rfl s3_69))))
                                                                     have s4_76 := ef 4 he_76 (up_m rfl (u2 rfl (u4 rfl (u8 rfl s4_69))))
                                                                     have s5_76 := ef 5 he_76 (up_m rfl (u2 rfl (u4 rfl (u8 rfl s5_69))))
                                                                     have s7_76 := ef 7 he_76 (up_m rfl (u2 rfl (u4 rfl (u8 rfl s7_69))))
                                                                     have s9_76 := ef 9 he_76 (up_m rfl (u2 rfl (u4 rfl (u8 rfl s9_69))))
                                                                     have s221_76 := ef 221 he_76 up_h
                                                                     clear he_76 hb_72 s206_69 s3_69 s4_69 s5_69 s7_69 s9_69
                                                                     refine then_n ?_
                                                                     refine aw_case s221_76 (fun hq_77 => ?_) (fun hq_77 => ?_)
                                                                     · (first | replace hq_77 := bnt hq_77 | replace hq_77 := bnf hq_77 | replace hq_77 := bt hq_77 | replace hq_77 := bf hq_77 | replace hq_77 := bt' hq_77 | replace hq_77 := bf' hq_77 | skip)
                                                                       first
                                                                       | (cases hq_77; done) | (exfalso; omega)
                                                                       | (
                                                                          refine aw_seq ?_
                                                                          refine aw_text (by kernel_rfl) ?_
                                                                          refine al_ro' (ro_assign ev_c) trivial rfl ?_
                                                                          refine al_end (fun e_78 he_78 => ?_)
                                                                          have s6_78 := ef 6 he_78 up_h
                                                                          clear he_78 s221_76 s3_76 s4_76 s5_76 s7_76 s9_76
                                                                          refine then_n ?_
                                                                          refine aw_ret ?_
                                                                          refine then_r ?_
                                                                          refine ret1 (.inr rfl) (by kernel_rfl) (resV_tmp s6_78) (.ro _ rfl) ?_
                                                                          clear s6_78 mo3_28 mo2_28 mo1_28 mo0_28 ml_28
                                                                          (first | rfl | (have hT : jT ps qs xs = ((0, 0), 11) := (by unfold jT; rw [if_neg (by omega)]); rw [hT]; rfl) | (have hT : jT ps qs xs = (((timW ps (xs.take (ps.length + 1))).1.1 + (timW qs (xs.drop ps.length)).1.1, (timW ps (xs.take (ps.length + 1))).1.2 + (timW qs (xs.drop ps.length)).1.2), 0) := (by unfold jT; rw [if_pos (by omega)]); first | (rw [hT]; simp; done) | (exfalso; have h0 : (jT ps qs xs).2 = 0 := congrArg Prod.snd hT; omega))))
                                                                     · (first | replace hq_77 := bnt hq_77 | replace hq_77 := bnf hq_77 | replace hq_77 := bt hq_77 | replace hq_77 := bf hq_77 | replace hq_77 := bt' hq_77 | replace hq_77 := bf' hq_77 | skip)
                                                                       first
                                                                       | (cases hq_77; done) | (exfalso; omega)
                                                                       | (
                                                                          (have hxl : xs.length = (ps ++ qs).length + 1 := (by omega); have hx0 : sqsE (ps ++ qs) xs = 0 := (by omega); have hxj := sqs_join hx0 hxl; obtain ⟨hx1, hx2⟩ := hxj; have hRa := chk_right g3; have hRb := chk_right g6; have tb1 := timW_bd (ps := ps) hRa.1 (by omega) (sqs_right hx1).2; have tb2 := timW_bd (ps := qs) hRb.1 (by omega) (sqs_right hx2).2)
                                                                          refine aw_skip ?_
                                                                          refine then_n ?_
                                                                          refine aw_seq ?_
                                                                          refine aw_drawK 14 1 ml_28 (by kernel_rfl) (by kernel_rfl) (by kernel_rfl) (by kernel_rfl) (fun m_79 hm_79 => ?_)
                                                                          have mo3_79 := m_room_o hm_79 mo3_28
                                                                          have mo2_79 := m_room_o hm_79 mo2_28
                                                                          have mo1_79 := m_room_o hm_79 mo1_28
                                                                          have mo0_79 := m_room_o hm_79 mo0_28
                                                                          have mo4_79 : m_79[4]? = _ := m_room_g hm_79 ml_28 0 rfl rfl
                                                                          have ml_79 : _ = 5 := m_room_l hm_79 ml_28
                                                                          clear hm_79 mo3_28 mo2_28 mo1_28 mo0_28 ml_28
                                                                          refine dh_ld (0) (fun M_ hM_ => (ro_eq (ro_ld_ptr k45_ty51 rfl (agr hM_ mo0_79 (by simp)) s3_76 (by first | exact Nat.le_of_ble_eq_true rfl | omega | (simp only [lnS] <;> omega) | (simp <;> omega))) (by first | (simp only [packA_t, packA_f, iE, bE, setAt, cellsA, Value.cells, map_vc, map_vn, Nat.reduceAdd, qS, td_m, dr_m, tk_m] <;> rfl) | rfl))) trivial trivial ?_
                                                                          first | refine dh_ro (fun M_ hM_ => (ro_call (evL_cons up_h evL_nil) rfl (rCopy_ok na ps (by omega)) k45_hcf21)) trivial ?_ | refine dh_ro (fun M_ hM_ => (ro_call (evL_cons up_h evL_nil) rfl (rCopy_ok nb qs (by omega)) k45_hcf21)) trivial ?_ | refine dh_ro (fun M_ hM_ => (ro_call (evL_cons up_h evL_nil) rfl (rCopy_ok na (ps ++ qs) (by omega)) k45_hcf21)) trivial ?_
                                                                          refine dh_ro (fun M_ hM_ => (ro_fld_ptr k45_fl70_3 rfl (u2 rfl s5_76))) trivial ?_
                                                                          refine dh_ld (2) (fun M_ hM_ => (ro_eq (ro_ld_ptr k45_ty22 rfl (agr hM_ mo2_79 (by simp)) up_h (by first | exact Nat.le_of_ble_eq_true rfl | omega | (simp only [lnS] <;> omega) | (simp <;> omega))) (by first | (simp only [packA_t, packA_f, iE, bE, setAt, cellsA, Value.cells, map_vc, map_vn, Nat.reduceAdd, qS, td_m, dr_m, tk_m] <;> rfl) | rfl))) trivial trivial ?_
                                                                          refine dh_ro (fun M_ hM_ => (ro_move (u4 rfl s9_76))) trivial ?_
                                                                          first | (refine dh_ro (fun M_ hM_ => (ro_add' up_h ev_c ?_)) trivial ?_; · (unfold In64; omega)) | refine dh_ro (fun M_ hM_ => (ro_add up_h ev_c)) trivial ?_
                                                                          refine dh_ro (fun M_ hM_ => (ro_slh k45_sl22 (u2 rfl up_h) up_h (by first | decide | omega | (simp <;> omega)) (by first | exact Nat.le_of_ble_eq_true rfl | omega | (simp only [lnS] <;> omega) | (simp <;> omega)))) trivial ?_
                                                                          first | refine dh_ro (fun M_ hM_ => (ro_call (evL_cons up_h evL_nil) rfl (copyT_ok (by omega) (by omega : ((ps.length : Int) + 1).toNat = ps.length + 1)) k45_hcf23)) trivial ?_ | refine dh_ro (fun M_ hM_ => (ro_call (evL_cons up_h evL_nil) rfl (copyD_ok (by omega) (by omega : (ps.length : Int).toNat = ps.length)) k45_hcf23)) trivial ?_ | refine dh_ro (fun M_ hM_ => (ro_call (evL_cons up_h evL_nil) rfl (copyInts_ok xs (by omega)) k45_hcf23)) trivial ?_
                                                                          first | refine dh_ro (fun M_ hM_ => (ro_call (evL_cons (u2 rfl (u4 rfl up_h)) (evL_cons up_h evL_nil)) rfl (timeOf0_ok (by omega) (by omega) (by rw [List.length_take]; omega) g3 hx1) k45_hcf25)) trivial ?_ | refine dh_ro (fun M_ hM_ => (ro_call (evL_cons (u2 rfl (u4 rfl up_h)) (evL_cons up_h evL_nil)) rfl (timeOf0_ok (by omega) (by omega) (by rw [List.length_drop]; omega) g6 hx2) k45_hcf25)) trivial ?_ | refine dh_ro (fun M_ hM_ => (ro_call (evL_cons (u2 rfl (u4 rfl up_h)) (evL_cons up_h evL_nil)) rfl (timeJ3_ok (by omega) (by omega) (by omega) hja hx0) k45_hcf25)) trivial ?_
                                                                          refine dh_ro (fun M_ hM_ => (ro_move up_h)) trivial ?_
                                                                          refine dh_ro (fun M_ hM_ => (ro_extract up_h rfl)) trivial ?_
                                                                          refine dh_ro (fun M_ hM_ => (ro_extract (up_m rfl up_h) rfl)) trivial ?_
                                                                          refine dh_nw (4) (fun M_ hM_ => (nw_alloc k45_az42 rfl)) trivial mo4_79 rfl trivial ⟨.inl (by simp <;> omega), ⟨.inl (by simp <;> omega), trivial⟩⟩ (fun m_80 hm_80 => ?_)
                                                                          have mo4_80 := m_set hm_80 mo4_79
                                                                          (try simp only [packA_t, packA_f, iE, bE, setAt, cellsA, Value.cells, map_vc, map_vn, Nat.reduceAdd, qS, td_m, dr_m, tk_m] at mo4_80)
                                                                          have mo3_80 := m_set_o hm_80 mo3_79 (by decide)
                                                                          have mo2_80 := m_set_o hm_80 mo2_79 (by decide)
                                                                          have mo1_80 := m_set_o hm_80 mo1_79 (by decide)
                                                                          have mo0_80 := m_set_o hm_80 mo0_79 (by decide)
                                                                          have ml_80 := m_set_l hm_80 ml_79
                                                                          clear hm_80 mo3_79 mo2_79 mo1_79 mo0_79 mo4_79
                                                                          refine dh_set (4) (fun M_ hM_ => (se_store up_h (u2 rfl up_h) rfl rfl (agr hM_ mo4_80 (by simp)) k45_sz42 rfl (by first | exact Nat.le_of_ble_eq_true rfl | omega | (simp only [lnS] <;> omega) | (simp <;> omega)))) trivial ⟨.inr (wt_one 13 12 (by kernel_rfl)), trivial⟩ ⟨.inl (by simp <;> omega), ⟨.inl (by simp <;> omega), ⟨.inr (wt_one 13 12 (by kernel_rfl)), trivial⟩⟩⟩ (fun m_81 hm_81 => ?_)
                                                                          have mo4_81 := m_set hm_81 mo4_80
                                                                          (try simp only [packA_t, packA_f, iE, bE, setAt, cellsA, Value.cells, map_vc, map_vn, Nat.reduceAdd, qS, td_m, dr_m, tk_m] at mo4_81)
                                                                          have mo3_81 := m_set_o hm_81 mo3_80 (by decide)
                                                                          have mo2_81 := m_set_o hm_81 mo2_80 (by decide)
                                                                          have mo1_81 := m_set_o hm_81 mo1_80 (by decide)
                                                                          have mo0_81 := m_set_o hm_81 mo0_80 (by decide)
                                                                          have ml_81 := m_set_l hm_81 ml_80
                                                                          clear hm_81 mo4_80 mo3_80 mo2_80 mo1_80 mo0_80
                                                                          refine dh_nil rfl ?_
                                                                          refine al_ro' (ro_assign (up_n (up_m rfl up_h))) trivial rfl ?_
                                                                          refine al_end (fun e_82 he_82 => ?_)
                                                                          have s4_82 := ef 4 he_82 (up_m rfl (up_n (up_m rfl (u4 rfl (u8 rfl s4_76)))))
                                                                          have s5_82 := ef 5 he_82 (up_m rfl (up_n (up_m rfl (u4 rfl (u8 rfl s5_76)))))
                                                                          have s7_82 := ef 7 he_82 (up_m rfl (up_n (up_m rfl (u4 rfl (u8 rfl s7_76)))))
                                                                          have s9_82 := ef 9 he_82 (up_m rfl (up_n (up_m rfl (u4 rfl (u8 rfl s9_76)))))
                                                                          have s18_82 := ef 18 he_82 (up_m rfl (up_n up_h))
                                                                          have s19_82 := ef 19 he_82 up_h
                                                                          clear he_82 s221_76 s3_76 s4_76 s5_76 s7_76 s9_76
                                                                          refine then_n ?_
                                                                          refine aw_seq ?_
                                                                          refine aw_drawK 13 1 ml_81 (by kernel_rfl) (by kernel_rfl) (by kernel_rfl) (by kernel_rfl) (fun m_83 hm_83 => ?_)
                                                                          have mo4_83 := m_room_o hm_83 mo4_81
                                                                          have mo3_83 := m_room_o hm_83 mo3_81
                                                                          have mo2_83 := m_room_o hm_83 mo2_81
                                                                          have mo1_83 := m_room_o hm_83 mo1_81
                                                                          have mo0_83 := m_room_o hm_83 mo0_81
                                                                          have mo5_83 : m_83[5]? = _ := m_room_g hm_83 ml_81 0 rfl rfl
                                                                          have ml_83 : _ = 6 := m_room_l hm_83 ml_81
                                                                          clear hm_83 mo4_81 mo3_81 mo2_81 mo1_81 mo0_81 ml_81
                                                                          refine dh_ld (1) (fun M_ hM_ => (ro_eq (ro_ld_ptr k45_ty51 rfl (agr hM_ mo1_83 (by simp)) s4_82 (by first | exact Nat.le_of_ble_eq_true rfl | omega | (simp only [lnS] <;> omega) | (simp <;> omega))) (by first | (simp only [packA_t, packA_f, iE, bE, setAt, cellsA, Value.cells, map_vc, map_vn, Nat.reduceAdd, qS, td_m, dr_m, tk_m] <;> rfl) | rfl))) trivial trivial ?_
                                                                          first | refine dh_ro (fun M_ hM_ => (ro_call (evL_cons up_h evL_nil) rfl (rCopy_ok na ps (by omega)) k45_hcf21)) trivial ?_ | refine dh_ro (fun M_ hM_ => (ro_call (evL_cons up_h evL_nil) rfl (rCopy_ok nb qs (by omega)) k45_hcf21)) trivial ?_ | refine dh_ro (fun M_ hM_ => (ro_call (evL_cons up_h evL_nil) rfl (rCopy_ok na (ps ++ qs) (by omega)) k45_hcf21)) trivial ?_
                                                                          refine dh_ro (fun M_ hM_ => (ro_fld_ptr k45_fl70_3 rfl (u2 rfl s5_82))) trivial ?_
                                                                          refine dh_ld (2) (fun M_ hM_ => (ro_eq (ro_ld_ptr k45_ty22 rfl (agr hM_ mo2_83 (by simp)) up_h (by first | exact Nat.le_of_ble_eq_true rfl | omega | (simp only [lnS] <;> omega) | (simp <;> omega))) (by first | (simp only [packA_t, packA_f, iE, bE, setAt, cellsA, Value.cells, map_vc, map_vn, Nat.reduceAdd, qS, td_m, dr_m, tk_m] <;> rfl) | rfl))) trivial trivial ?_
                                                                          refine dh_ro (fun M_ hM_ => (ro_move (u4 rfl s9_82))) trivial ?_
                                                                          refine dh_ro (fun M_ hM_ => (ro_sll k45_sl22 (up_m rfl up_h) up_h (by first | decide | omega | (simp <;> omega)) (by first | exact Nat.le_of_ble_eq_true rfl | omega | (simp only [lnS] <;> omega) | (simp <;> omega)))) trivial ?_
                                                                          first | refine dh_ro (fun M_ hM_ => (ro_call (evL_cons up_h evL_nil) rfl (copyT_ok (by omega) (by omega : ((ps.length : Int) + 1).toNat = ps.length + 1)) k45_hcf23)) trivial ?_ | refine dh_ro (fun M_ hM_ => (ro_call (evL_cons up_h evL_nil) rfl (copyD_ok (by omega) (by omega : (ps.length : Int).toNat = ps.length)) k45_hcf23)) trivial ?_ | refine dh_ro (fun M_ hM_ => (ro_call (evL_cons up_h evL_nil) rfl (copyInts_ok xs (by omega)) k45_hcf23)) trivial ?_
                                                                          first | refine dh_ro (fun M_ hM_ => (ro_call (evL_cons (up_m rfl (u4 rfl up_h)) (evL_cons up_h evL_nil)) rfl (timeOf0_ok (by omega) (by omega) (by rw [List.length_take]; omega) g3 hx1) k45_hcf25)) trivial ?_ | refine dh_ro (fun M_ hM_ => (ro_call (evL_cons (up_m rfl (u4 rfl up_h)) (evL_cons up_h evL_nil)) rfl (timeOf0_ok (by omega) (by omega) (by rw [List.length_drop]; omega) g6 hx2) k45_hcf25)) trivial ?_ | refine dh_ro (fun M_ hM_ => (ro_call (evL_cons (up_m rfl (u4 rfl up_h)) (evL_cons up_h evL_nil)) rfl (timeJ3_ok (by omega) (by omega) (by omega) hja hx0) k45_hcf25)) trivial ?_
                                                                          refine dh_ro (fun M_ hM_ => (ro_move up_h)) trivial ?_
                                                                          refine dh_ro (fun M_ hM_ => (ro_extract up_h rfl)) trivial ?_
                                                                          refine dh_ro (fun M_ hM_ => (ro_extract (up_m rfl up_h) rfl)) trivial ?_
                                                                          refine dh_nw (5) (fun M_ hM_ => (nw_alloc k45_az42 rfl)) trivial mo5_83 rfl trivial ⟨.inl (by simp <;> omega), ⟨.inl (by simp <;> omega), trivial⟩⟩ (fun m_84 hm_84 => ?_)
                                                                          have mo5_84 := m_set hm_84 mo5_83
                                                                          (try simp only [packA_t, packA_f, iE, bE, setAt, cellsA, Value.cells, map_vc, map_vn, Nat.reduceAdd, qS, td_m, dr_m, tk_m] at mo5_84)
                                                                          have mo4_84 := m_set_o hm_84 mo4_83 (by decide)
                                                                          have mo3_84 := m_set_o hm_84 mo3_83 (by decide)
                                                                          have mo2_84 := m_set_o hm_84 mo2_83 (by decide)
                                                                          have mo1_84 := m_set_o hm_84 mo1_83 (by decide)
                                                                          have mo0_84 := m_set_o hm_84 mo0_83 (by decide)
                                                                          have ml_84 := m_set_l hm_84 ml_83
                                                                          clear hm_84 mo4_83 mo3_83 mo2_83 mo1_83 mo0_83 mo5_83
                                                                          refine dh_set (5) (fun M_ hM_ => (se_store up_h (u2 rfl up_h) rfl rfl (agr hM_ mo5_84 (by simp)) k45_sz42 rfl (by first | exact Nat.le_of_ble_eq_true rfl | omega | (simp only [lnS] <;> omega) | (simp <;> omega)))) trivial ⟨.inr (wt_one 12 11 (by kernel_rfl)), trivial⟩ ⟨.inl (by simp <;> omega), ⟨.inl (by simp <;> omega), ⟨.inr (wt_one 12 11 (by kernel_rfl)), trivial⟩⟩⟩ (fun m_85 hm_85 => ?_)
                                                                          have mo5_85 := m_set hm_85 mo5_84
                                                                          (try simp only [packA_t, packA_f, iE, bE, setAt, cellsA, Value.cells, map_vc, map_vn, Nat.reduceAdd, qS, td_m, dr_m, tk_m] at mo5_85)
                                                                          have mo4_85 := m_set_o hm_85 mo4_84 (by decide)
                                                                          have mo3_85 := m_set_o hm_85 mo3_84 (by decide)
                                                                          have mo2_85 := m_set_o hm_85 mo2_84 (by decide)
                                                                          have mo1_85 := m_set_o hm_85 mo1_84 (by decide)
                                                                          have mo0_85 := m_set_o hm_85 mo0_84 (by decide)
                                                                          have ml_85 := m_set_l hm_85 ml_84
                                                                          clear hm_85 mo5_84 mo4_84 mo3_84 mo2_84 mo1_84 mo0_84
                                                                          refine dh_nil rfl ?_
                                                                          refine al_ro' (ro_assign (up_n (up_m rfl up_h))) trivial rfl ?_
                                                                          refine al_end (fun e_86 he_86 => ?_)
                                                                          have s5_86 := ef 5 he_86 (up_m rfl (up_n (u4 rfl (u8 rfl s5_82))))
                                                                          have s7_86 := ef 7 he_86 (up_m rfl (up_n (u4 rfl (u8 rfl s7_82))))
                                                                          have s18_86 := ef 18 he_86 (up_m rfl (up_n (u4 rfl (u8 rfl s18_82))))
                                                                          have s19_86 := ef 19 he_86 (up_m rfl (up_n (u4 rfl (u8 rfl s19_82))))
                                                                          have s20_86 := ef 20 he_86 (up_m rfl (up_n up_h))
                                                                          have s21_86 := ef 21 he_86 up_h
                                                                          clear he_86 s18_82 s19_82 s4_82 s5_82 s7_82 s9_82
                                                                          refine then_n ?_
                                                                          refine aw_seq ?_
                                                                          refine aw_drawK 11 1 ml_85 (by kernel_rfl) (by kernel_rfl) (by kernel_rfl) (by kernel_rfl) (fun m_87 hm_87 => ?_)
                                                                          have mo5_87 := m_room_o hm_87 mo5_85
                                                                          have mo4_87 := m_room_o hm_87 mo4_85
                                                                          have mo3_87 := m_room_o hm_87 mo3_85
                                                                          have mo2_87 := m_room_o hm_87 mo2_85
                                                                          have mo1_87 := m_room_o hm_87 mo1_85
                                                                          have mo0_87 := m_room_o hm_87 mo0_85
                                                                          have mo6_87 : m_87[6]? = _ := m_room_g hm_87 ml_85 0 rfl rfl
                                                                          have ml_87 : _ = 7 := m_room_l hm_87 ml_85
                                                                          clear hm_87 mo5_85 mo4_85 mo3_85 mo2_85 mo1_85 mo0_85 ml_85
                                                                          refine dh_ld (3) (fun M_ hM_ => (ro_eq (ro_ld_ptr k45_ty51 rfl (agr hM_ mo3_87 (by simp)) s7_86 (by first | exact Nat.le_of_ble_eq_true rfl | omega | (simp only [lnS] <;> omega) | (simp <;> omega))) (by first | (simp only [packA_t, packA_f, iE, bE, setAt, cellsA, Value.cells, map_vc, map_vn, Nat.reduceAdd, qS, td_m, dr_m, tk_m] <;> rfl) | rfl))) trivial trivial ?_
                                                                          first | refine dh_ro (fun M_ hM_ => (ro_call (evL_cons up_h evL_nil) rfl (rCopy_ok na ps (by omega)) k45_hcf21)) trivial ?_ | refine dh_ro (fun M_ hM_ => (ro_call (evL_cons up_h evL_nil) rfl (rCopy_ok nb qs (by omega)) k45_hcf21)) trivial ?_ | refine dh_ro (fun M_ hM_ => (ro_call (evL_cons up_h evL_nil) rfl (rCopy_ok na (ps ++ qs) (by omega)) k45_hcf21)) trivial ?_
                                                                          refine dh_ro (fun M_ hM_ => (ro_fld_ptr k45_fl70_3 rfl (u2 rfl s5_86))) trivial ?_
                                                                          refine dh_ld (2) (fun M_ hM_ => (ro_eq (ro_ld_ptr k45_ty22 rfl (agr hM_ mo2_87 (by simp)) up_h (by first | exact Nat.le_of_ble_eq_true rfl | omega | (simp only [lnS] <;> omega) | (simp <;> omega))) (by first | (simp only [packA_t, packA_f, iE, bE, setAt, cellsA, Value.cells, map_vc, map_vn, Nat.reduceAdd, qS, td_m, dr_m, tk_m] <;> rfl) | rfl))) trivial trivial ?_
                                                                          first | refine dh_ro (fun M_ hM_ => (ro_call (evL_cons up_h evL_nil) rfl (copyT_ok (by omega) (by omega : ((ps.length : Int) + 1).toNat = ps.length + 1)) k45_hcf23)) trivial ?_ | refine dh_ro (fun M_ hM_ => (ro_call (evL_cons up_h evL_nil) rfl (copyD_ok (by omega) (by omega : (ps.length : Int).toNat = ps.length)) k45_hcf23)) trivial ?_ | refine dh_ro (fun M_ hM_ => (ro_call (evL_cons up_h evL_nil) rfl (copyInts_ok xs (by omega)) k45_hcf23)) trivial ?_
                                                                          first | refine dh_ro (fun M_ hM_ => (ro_call (evL_cons (up_m rfl (u2 rfl up_h)) (evL_cons up_h evL_nil)) rfl (timeOf0_ok (by omega) (by omega) (by rw [List.length_take]; omega) g3 hx1) k45_hcf25)) trivial ?_ | refine dh_ro (fun M_ hM_ => (ro_call (evL_cons (up_m rfl (u2 rfl up_h)) (evL_cons up_h evL_nil)) rfl (timeOf0_ok (by omega) (by omega) (by rw [List.length_drop]; omega) g6 hx2) k45_hcf25)) trivial ?_ | refine dh_ro (fun M_ hM_ => (ro_call (evL_cons (up_m rfl (u2 rfl up_h)) (evL_cons up_h evL_nil)) rfl (timeJ3_ok (by omega) (by omega) (by omega) hja hx0) k45_hcf25)) trivial ?_
                                                                          refine dh_ro (fun M_ hM_ => (ro_move up_h)) trivial ?_
                                                                          refine dh_ro (fun M_ hM_ => (ro_extract up_h rfl)) trivial ?_
                                                                          refine dh_ro (fun M_ hM_ => (ro_extract (up_m rfl up_h) rfl)) trivial ?_
                                                                          refine dh_nw (6) (fun M_ hM_ => (nw_alloc k45_az42 rfl)) trivial mo6_87 rfl trivial ⟨.inl (by simp <;> omega), ⟨.inl (by simp <;> omega), trivial⟩⟩ (fun m_88 hm_88 => ?_)
                                                                          have mo6_88 := m_set hm_88 mo6_87
                                                                          (try simp only [packA_t, packA_f, iE, bE, setAt, cellsA, Value.cells, map_vc, map_vn, Nat.reduceAdd, qS, td_m, dr_m, tk_m] at mo6_88)
                                                                          have mo5_88 := m_set_o hm_88 mo5_87 (by decide)
                                                                          have mo4_88 := m_set_o hm_88 mo4_87 (by decide)
                                                                          have mo3_88 := m_set_o hm_88 mo3_87 (by decide)
                                                                          have mo2_88 := m_set_o hm_88 mo2_87 (by decide)
                                                                          have mo1_88 := m_set_o hm_88 mo1_87 (by decide)
                                                                          have mo0_88 := m_set_o hm_88 mo0_87 (by decide)
                                                                          have ml_88 := m_set_l hm_88 ml_87
                                                                          clear hm_88 mo5_87 mo4_87 mo3_87 mo2_87 mo1_87 mo0_87 mo6_87
                                                                          refine dh_set (6) (fun M_ hM_ => (se_store up_h (u2 rfl up_h) rfl rfl (agr hM_ mo6_88 (by simp)) k45_sz42 rfl (by first | exact Nat.le_of_ble_eq_true rfl | omega | (simp only [lnS] <;> omega) | (simp <;> omega)))) trivial ⟨.inr (wt_one 10 9 (by kernel_rfl)), trivial⟩ ⟨.inl (by simp <;> omega), ⟨.inl (by simp <;> omega), ⟨.inr (wt_one 10 9 (by kernel_rfl)), trivial⟩⟩⟩ (fun m_89 hm_89 => ?_)
                                                                          have mo6_89 := m_set hm_89 mo6_88
                                                                          (try simp only [packA_t, packA_f, iE, bE, setAt, cellsA, Value.cells, map_vc, map_vn, Nat.reduceAdd, qS, td_m, dr_m, tk_m] at mo6_89)
                                                                          have mo5_89 := m_set_o hm_89 mo5_88 (by decide)
                                                                          have mo4_89 := m_set_o hm_89 mo4_88 (by decide)
                                                                          have mo3_89 := m_set_o hm_89 mo3_88 (by decide)
                                                                          have mo2_89 := m_set_o hm_89 mo2_88 (by decide)
                                                                          have mo1_89 := m_set_o hm_89 mo1_88 (by decide)
                                                                          have mo0_89 := m_set_o hm_89 mo0_88 (by decide)
                                                                          have ml_89 := m_set_l hm_89 ml_88
                                                                          clear hm_89 mo6_88 mo5_88 mo4_88 mo3_88 mo2_88 mo1_88 mo0_88
                                                                          refine dh_nil rfl ?_
                                                                          refine al_ro' (ro_assign (up_n (up_m rfl up_h))) trivial rfl ?_
                                                                          refine al_end (fun e_90 he_90 => ?_)
                                                                          have s18_90 := ef 18 he_90 (up_m rfl (up_n (u2 rfl (u8 rfl s18_86))))
                                                                          have s19_90 := ef 19 he_90 (up_m rfl (up_n (u2 rfl (u8 rfl s19_86))))
                                                                          have s20_90 := ef 20 he_90 (up_m rfl (up_n (u2 rfl (u8 rfl s20_86))))
                                                                          have s21_90 := ef 21 he_90 (up_m rfl (up_n (u2 rfl (u8 rfl s21_86))))
                                                                          have s22_90 := ef 22 he_90 (up_m rfl (up_n up_h))
                                                                          have s23_90 := ef 23 he_90 up_h
                                                                          clear he_90 s18_86 s19_86 s20_86 s21_86 s5_86 s7_86
                                                                          refine then_n ?_
                                                                          refine aw_seq ?_
                                                                          refine aw_seq ?_
                                                                          refine aw_text (by kernel_rfl) ?_
                                                                          refine al_ro' (ro_move s19_90) trivial rfl ?_
                                                                          refine al_ro' (ro_neq up_h ev_c) trivial rfl ?_
                                                                          refine al_ro' (ro_move up_h) trivial rfl ?_
                                                                          refine al_case up_h (fun hb_91 hq_91 => ?_) (fun hb_91 hq_91 => ?_)
                                                                          · (first | replace hq_91 := bnt hq_91 | replace hq_91 := bnf hq_91 | replace hq_91 := bt hq_91 | replace hq_91 := bf hq_91 | replace hq_91 := bt' hq_91 | replace hq_91 := bf' hq_91 | skip)
                                                                            first
                                                                            | (cases hq_91; done) | (exfalso; omega)
                                                                            | (
                                                                               refine al_skip' ⟨_, rfl, .inl hb_91⟩ rfl ?_
                                                                               refine al_skip' ⟨_, rfl, .inl (up_m rfl hb_91)⟩ rfl ?_
                                                                               refine al_ro' (ro_pickT (u2 rfl hb_91) ev_c) trivial rfl ?_
                                                                               refine al_end (fun e_92 he_92 => ?_)
                                                                               have s18_92 := ef 18 he_92 (u2 rfl (u4 rfl s18_90))
                                                                               have s20_92 := ef 20 he_92 (u2 rfl (u4 rfl s20_90))
                                                                               have s22_92 := ef 22 he_92 (u2 rfl (u4 rfl s22_90))
                                                                               have s23_92 := ef 23 he_92 (u2 rfl (u4 rfl s23_90))
                                                                               have s259_92 := ef 259 he_92 up_h
                                                                               clear he_92 hb_91 s18_90 s19_90 s20_90 s21_90 s22_90 s23_90
                                                                               refine then_n ?_
                                                                               refine aw_true s259_92 ?_
                                                                               refine aw_seq ?_
                                                                               refine aw_text (by kernel_rfl) ?_
                                                                               refine al_ro' (ro_move s23_92) trivial rfl ?_
                                                                               refine al_ro' (ro_eql up_h ev_c) trivial rfl ?_
                                                                               refine al_ro' (ro_assign up_h) trivial rfl ?_
                                                                               refine al_end (fun e_94 he_94 => ?_)
                                                                               have s6_94 := ef 6 he_94 up_h
                                                                               clear he_94 s18_92 s20_92 s22_92 s23_92 s259_92
                                                                               refine then_n ?_
                                                                               refine aw_ret ?_
                                                                               refine then_r ?_
                                                                               refine ret1 (.inr rfl) (by kernel_rfl) (resV_tmp s6_94) (.ro _ rfl) ?_
                                                                               clear s6_94 mo6_89 mo5_89 mo4_89 mo3_89 mo2_89 mo1_89 mo0_89 ml_89
                                                                               (first | rfl | (have hT : jT ps qs xs = ((0, 0), 11) := (by unfold jT; rw [if_neg (by omega)]); rw [hT]; rfl) | (have hT : jT ps qs xs = (((timW ps (xs.take (ps.length + 1))).1.1 + (timW qs (xs.drop ps.length)).1.1, (timW ps (xs.take (ps.length + 1))).1.2 + (timW qs (xs.drop ps.length)).1.2), 0) := (by unfold jT; rw [if_pos (by omega)]); first | (rw [hT]; simp; done) | (exfalso; have h0 : (jT ps qs xs).2 = 0 := congrArg Prod.snd hT; omega))))
                                                                          · (first | replace hq_91 := bnt hq_91 | replace hq_91 := bnf hq_91 | replace hq_91 := bt hq_91 | replace hq_91 := bf hq_91 | replace hq_91 := bt' hq_91 | replace hq_91 := bf' hq_91 | skip)
                                                                            first
                                                                            | (cases hq_91; done) | (exfalso; omega)
                                                                            | (
                                                                               refine al_ro' (ro_move (up_m rfl (u2 rfl s21_90))) ⟨_, rfl, hb_91⟩ rfl ?_
                                                                               refine al_ro' (ro_neq up_h ev_c) ⟨_, rfl, (up_m rfl hb_91)⟩ rfl ?_
                                                                               refine al_ro' (ro_pickF (u2 rfl hb_91) up_h) trivial rfl ?_
                                                                               refine al_end (fun e_95 he_95 => ?_)
                                                                               have s18_95 := ef 18 he_95 (u2 rfl (u4 rfl s18_90))
                                                                               have s20_95 := ef 20 he_95 (u2 rfl (u4 rfl s20_90))
                                                                               have s22_95 := ef 22 he_95 (u2 rfl (u4 rfl s22_90))
                                                                               have s23_95 := ef 23 he_95 (u2 rfl (u4 rfl s23_90))
                                                                               have s259_95 := ef 259 he_95 up_h
                                                                               clear he_95 hb_91 s18_90 s19_90 s20_90 s21_90 s22_90 s23_90
                                                                               refine then_n ?_
                                                                               refine aw_case s259_95 (fun hq_96 => ?_) (fun hq_96 => ?_)
                                                                               · (first | replace hq_96 := bnt hq_96 | replace hq_96 := bnf hq_96 | replace hq_96 := bt hq_96 | replace hq_96 := bf hq_96 | replace hq_96 := bt' hq_96 | replace hq_96 := bf' hq_96 | skip)
                                                                                 first
                                                                                 | (cases hq_96; done) | (exfalso; omega)
                                                                                 | (
                                                                                    refine aw_seq ?_
                                                                                    refine aw_text (by kernel_rfl) ?_
                                                                                    refine al_ro' (ro_move s23_95) trivial rfl ?_
                                                                                    refine al_ro' (ro_eql up_h ev_c) trivial rfl ?_
                                                                                    refine al_ro' (ro_assign up_h) trivial rfl ?_
                                                                                    refine al_end (fun e_97 he_97 => ?_)
                                                                                    have s6_97 := ef 6 he_97 up_h
                                                                                    clear he_97 s18_95 s20_95 s22_95 s23_95 s259_95
                                                                                    refine then_n ?_
                                                                                    refine aw_ret ?_
                                                                                    refine then_r ?_
                                                                                    refine ret1 (.inr rfl) (by kernel_rfl) (resV_tmp s6_97) (.ro _ rfl) ?_
                                                                                    clear s6_97 mo6_89 mo5_89 mo4_89 mo3_89 mo2_89 mo1_89 mo0_89 ml_89
                                                                                    (first | rfl | (have hT : jT ps qs xs = ((0, 0), 11) := (by unfold jT; rw [if_neg (by omega)]); rw [hT]; rfl) | (have hT : jT ps qs xs = (((timW ps (xs.take (ps.length + 1))).1.1 + (timW qs (xs.drop ps.length)).1.1, (timW ps (xs.take (ps.length + 1))).1.2 + (timW qs (xs.drop ps.length)).1.2), 0) := (by unfold jT; rw [if_pos (by omega)]); first | (rw [hT]; simp; done) | (exfalso; have h0 : (jT ps qs xs).2 = 0 := congrArg Prod.snd hT; omega))))
                                                                               · (first | replace hq_96 := bnt hq_96 | replace hq_96 := bnf hq_96 | replace hq_96 := bt hq_96 | replace hq_96 := bf hq_96 | replace hq_96 := bt' hq_96 | replace hq_96 := bf' hq_96 | skip)
                                                                                 first
                                                                                 | (cases hq_96; done) | (exfalso; omega)
                                                                                 | (
                                                                                    refine aw_skip ?_
                                                                                    refine then_n ?_
                                                                                    refine aw_seq ?_
                                                                                    refine aw_text (by kernel_rfl) ?_
                                                                                    refine al_ro' (ro_move s23_95) trivial rfl ?_
                                                                                    refine al_ro' (ro_eql up_h ev_c) trivial rfl ?_
                                                                                    refine al_ro' (ro_move up_h) trivial rfl ?_
                                                                                    refine al_case up_h (fun hb_98 hq_98 => ?_) (fun hb_98 hq_98 => ?_)
                                                                                    · (first | replace hq_98 := bnt hq_98 | replace hq_98 := bnf hq_98 | replace hq_98 := bt hq_98 | replace hq_98 := bf hq_98 | replace hq_98 := bt' hq_98 | replace hq_98 := bf' hq_98 | skip)
                                                                                      first
                                                                                      | (cases hq_98; done) | (exfalso; omega)
                                                                                      | (
                                                                                         refine al_ro' (ro_eq (ro_ld_ptr k45_ty42 rfl mo6_89 (up_m rfl (u2 rfl s22_95)) (by first | exact Nat.le_of_ble_eq_true rfl | omega | (simp only [lnS] <;> omega) | (simp <;> omega))) (by first | (simp only [packA_t, packA_f, iE, bE, setAt, cellsA, Value.cells, map_vc, map_vn, Nat.reduceAdd, qS, td_m, dr_m, tk_m] <;> rfl) | rfl)) ⟨_, rfl, hb_98⟩ rfl ?_
                                                                                         refine al_ro' (ro_fld_ptr k45_fl42_0 rfl (u4 rfl s18_95)) ⟨_, rfl, (up_m rfl hb_98)⟩ rfl ?_
                                                                                         refine al_ro' (ro_eq (ro_ld_ptr k45_ty3 rfl mo4_89 up_h (by first | exact Nat.le_of_ble_eq_true rfl | omega | (simp only [lnS] <;> omega) | (simp <;> omega))) (by first | (simp only [packA_t, packA_f, iE, bE, setAt, cellsA, Value.cells, map_vc, map_vn, Nat.reduceAdd, qS, td_m, dr_m, tk_m] <;> rfl) | rfl)) ⟨_, rfl, (u2 rfl hb_98)⟩ rfl ?_
                                                                                         refine al_ro' (ro_fld_ptr k45_fl42_0 rfl (u2 rfl (u4 rfl s20_95))) ⟨_, rfl, (up_m rfl (u2 rfl hb_98))⟩ rfl ?_
                                                                                         refine al_ro' (ro_eq (ro_ld_ptr k45_ty3 rfl mo5_89 up_h (by first | exact Nat.le_of_ble_eq_true rfl | omega | (simp only [lnS] <;> omega) | (simp <;> omega))) (by first | (simp only [packA_t, packA_f, iE, bE, setAt, cellsA, Value.cells, map_vc, map_vn, Nat.reduceAdd, qS, td_m, dr_m, tk_m] <;> rfl) | rfl)) ⟨_, rfl, (u4 rfl hb_98)⟩ rfl ?_
                                                                                         first | (refine al_ro' (ro_add' (u2 rfl up_h) up_h ?_) ⟨_, rfl, (up_m rfl (u4 rfl hb_98))⟩ rfl ?_; · (unfold In64; omega)) | refine al_ro' (ro_add (u2 rfl up_h) up_h) ⟨_, rfl, (up_m rfl (u4 rfl hb_98))⟩ rfl ?_
                                                                                         refine al_ro' (ro_fld_ptr k45_fl42_1 rfl (up_m rfl (u8 rfl s18_95))) ⟨_, rfl, (u2 rfl (u4 rfl hb_98))⟩ rfl ?_
                                                                                         refine al_ro' (ro_eq (ro_ld_ptr k45_ty3 rfl mo4_89 up_h (by first | exact Nat.le_of_ble_eq_true rfl | omega | (simp only [lnS] <;> omega) | (simp <;> omega))) (by first | (simp only [packA_t, packA_f, iE, bE, setAt, cellsA, Value.cells, map_vc, map_vn, Nat.reduceAdd, qS, td_m, dr_m, tk_m] <;> rfl) | rfl)) ⟨_, rfl, (up_m rfl (u2 rfl (u4 rfl hb_98)))⟩ rfl ?_
                                                                                         refine al_ro' (ro_fld_ptr k45_fl42_1 rfl (up_m rfl (u2 rfl (u8 rfl s20_95)))) ⟨_, rfl, (u8 rfl hb_98)⟩ rfl ?_
                                                                                         refine al_ro' (ro_eq (ro_ld_ptr k45_ty3 rfl mo5_89 up_h (by first | exact Nat.le_of_ble_eq_true rfl | omega | (simp only [lnS] <;> omega) | (simp <;> omega))) (by first | (simp only [packA_t, packA_f, iE, bE, setAt, cellsA, Value.cells, map_vc, map_vn, Nat.reduceAdd, qS, td_m, dr_m, tk_m] <;> rfl) | rfl)) ⟨_, rfl, (up_m rfl (u8 rfl hb_98))⟩ rfl ?_
                                                                                         first | (refine al_ro' (ro_add' (u2 rfl up_h) up_h ?_) ⟨_, rfl, (u2 rfl (u8 rfl hb_98))⟩ rfl ?_; · (unfold In64; omega)) | refine al_ro' (ro_add (u2 rfl up_h) up_h) ⟨_, rfl, (u2 rfl (u8 rfl hb_98))⟩ rfl ?_
                                                                                         refine al_ro' (ro_build (evP_cons (up_m rfl (u4 rfl up_h)) (evP_cons up_h evP_nil)) k45_bz42 k45_bu42 k45_bp42 rfl) ⟨_, rfl, (up_m rfl (u2 rfl (u8 rfl hb_98)))⟩ rfl ?_
                                                                                         refine al_ro' (ro_sqeql (up_m rfl (u2 rfl (u8 rfl up_h))) up_h rfl rfl k45_gq42 k45_sq42 (by decide)) ⟨_, rfl, (u4 rfl (u8 rfl hb_98))⟩ rfl ?_
                                                                                         refine al_ro' (ro_pickT (up_m rfl (u4 rfl (u8 rfl hb_98))) up_h) trivial rfl ?_
                                                                                         refine al_ro' (ro_assign up_h) trivial rfl ?_
                                                                                         refine al_end (fun e_99 he_99 => ?_)
                                                                                         have s6_99 := ef 6 he_99 up_h
                                                                                         clear he_99 hb_98 s18_95 s20_95 s22_95 s23_95 s259_95
                                                                                         refine then_n ?_
                                                                                         refine aw_ret ?_
                                                                                         refine ret1 (.inr rfl) (by kernel_rfl) (resV_tmp s6_99) (.ro _ rfl) ?_
                                                                                         clear s6_99 mo6_89 mo5_89 mo4_89 mo3_89 mo2_89 mo1_89 mo0_89 ml_89
                                                                                         (first | rfl | (have hT : jT ps qs xs = ((0, 0), 11) := (by unfold jT; rw [if_neg (by omega)]); rw [hT]; rfl) | (have hT : jT ps qs xs = (((timW ps (xs.take (ps.length + 1))).1.1 + (timW qs (xs.drop ps.length)).1.1, (timW ps (xs.take (ps.length + 1))).1.2 + (timW qs (xs.drop ps.length)).1.2), 0) := (by unfold jT; rw [if_pos (by omega)]); first | (rw [hT]; simp; done) | (exfalso; have h0 : (jT ps qs xs).2 = 0 := congrArg Prod.snd hT; omega))))
                                                                                    · (first | replace hq_98 := bnt hq_98 | replace hq_98 := bnf hq_98 | replace hq_98 := bt hq_98 | replace hq_98 := bf hq_98 | replace hq_98 := bt' hq_98 | replace hq_98 := bf' hq_98 | skip)
                                                                                      first
                                                                                      | (cases hq_98; done) | (exfalso; omega)
                                                                                      | (
                                                                                         refine al_skip' ⟨_, rfl, .inl hb_98⟩ rfl ?_
                                                                                         refine al_skip' ⟨_, rfl, .inl (up_m rfl hb_98)⟩ rfl ?_
                                                                                         refine al_skip' ⟨_, rfl, .inl (u2 rfl hb_98)⟩ rfl ?_
                                                                                         refine al_skip' ⟨_, rfl, .inl (up_m rfl (u2 rfl hb_98))⟩ rfl ?_
                                                                                         refine al_skip' ⟨_, rfl, .inl (u4 rfl hb_98)⟩ rfl ?_
                                                                                         refine al_skip' ⟨_, rfl, .inl (up_m rfl (u4 rfl hb_98))⟩ rfl ?_
                                                                                         refine al_skip' ⟨_, rfl, .inl (u2 rfl (u4 rfl hb_98))⟩ rfl ?_
                                                                                         refine al_skip' ⟨_, rfl, .inl (up_m rfl (u2 rfl (u4 rfl hb_98)))⟩ rfl ?_
                                                                                         refine al_skip' ⟨_, rfl, .inl (u8 rfl hb_98)⟩ rfl ?_
                                                                                         refine al_skip' ⟨_, rfl, .inl (up_m rfl (u8 rfl hb_98))⟩ rfl ?_
                                                                                         refine al_skip' ⟨_, rfl, .inl (u2 rfl (u8 rfl hb_98))⟩ rfl ?_
                                                                                         refine al_skip' ⟨_, rfl, .inl (up_m rfl (u2 rfl (u8 rfl hb_98)))⟩ rfl ?_
                                                                                         refine al_skip' ⟨_, rfl, .inl (u4 rfl (u8 rfl hb_98))⟩ rfl ?_
                                                                                         refine al_ro' (ro_pickF (up_m rfl (u4 rfl (u8 rfl hb_98))) ev_c) trivial rfl ?_
                                                                                         refine al_ro' (ro_assign up_h) trivial rfl ?_
                                                                                         refine al_end (fun e_100 he_100 => ?_)
                                                                                         have s6_100 := ef 6 he_100 up_h
                                                                                         clear he_100 hb_98 s18_95 s20_95 s22_95 s23_95 s259_95
                                                                                         refine then_n ?_
                                                                                         refine aw_ret ?_
                                                                                         refine ret1 (.inr rfl) (by kernel_rfl) (resV_tmp s6_100) (.ro _ rfl) ?_
                                                                                         clear s6_100 mo6_89 mo5_89 mo4_89 mo3_89 mo2_89 mo1_89 mo0_89 ml_89
                                                                                         (first | rfl | (have hT : jT ps qs xs = ((0, 0), 11) := (by unfold jT; rw [if_neg (by omega)]); rw [hT]; rfl) | (have hT : jT ps qs xs = (((timW ps (xs.take (ps.length + 1))).1.1 + (timW qs (xs.drop ps.length)).1.1, (timW ps (xs.take (ps.length + 1))).1.2 + (timW qs (xs.drop ps.length)).1.2), 0) := (by unfold jT; rw [if_pos (by omega)]); first | (rw [hT]; simp; done) | (exfalso; have h0 : (jT ps qs xs).2 = 0 := congrArg Prod.snd hT; omega))))))))))))))))))))
end Go.Proofs.Ytgiiedpambimoaa
