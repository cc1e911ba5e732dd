/- The law of chapter 5 that nothing is faster: the walk. No conditions on a program. -/
import Derived.Test.YtgiiedpambimoaaK28
import Derived.Test.YtgiiedpambimoaaK17
namespace Go.Proofs.Ytgiiedpambimoaa
open Go Go.RowKit Go.Proofs
set_option linter.unusedSimpArgs false
set_option linter.unusedVariables false
theorem k29_az42 : (Try.prog.info? 42).bind (·.zero) = some (.agg #[.int .i64 0, .int .i64 0]) := by kernel_rfl
theorem k29_ar54 : ArIs Try.prog 54 2 1 := ⟨by kernel_rfl, by kernel_rfl⟩
theorem k29_bz54 : (Try.prog.info? 54).bind (·.zero) = some (.agg #[.int .i64 0, .int .i64 0]) := by kernel_rfl
theorem k29_bu54 : Try.prog.underlying 54 = some (.array 2 3) := by kernel_rfl
theorem k29_bp54 : (Try.prog.info? 3).map (·.size) = some 1 := by kernel_rfl
theorem k29_fl42_0 : FldIs Try.prog 42 0 0 false 1 := by unfold FldIs; kernel_rfl
theorem k29_fl42_1 : FldIs Try.prog 42 1 1 false 1 := by unfold FldIs; kernel_rfl
theorem k29_fl51_1 : FldIs Try.prog 51 1 1 false 1 := by unfold FldIs; kernel_rfl
theorem k29_fl56_0 : FldIs Try.prog 56 0 0 true 2 := by unfold FldIs; kernel_rfl
theorem k29_fl56_1 : FldIs Try.prog 56 1 2 false 1 := by unfold FldIs; kernel_rfl
theorem k29_fl56_2 : FldIs Try.prog 56 2 3 false 1 := by unfold FldIs; kernel_rfl
theorem k29_hcf10 : ∀ args w, (callFunc 10 args).run Try.prog w = .ok (.enter 10 args) w := fun _ _ => by kernel_rfl
theorem k29_hcf17 : ∀ args w, (callFunc 17 args).run Try.prog w = .ok (.enter 17 args) w := fun _ _ => by kernel_rfl
theorem k29_hcf18 : ∀ args w, (callFunc 18 args).run Try.prog w = .ok (.enter 18 args) w := fun _ _ => by kernel_rfl
theorem k29_hcf19 : ∀ args w, (callFunc 19 args).run Try.prog w = .ok (.enter 19 args) w := fun _ _ => by kernel_rfl
theorem k29_hcf20 : ∀ args w, (callFunc 20 args).run Try.prog w = .ok (.enter 20 args) w := fun _ _ => by kernel_rfl
theorem k29_hcf21 : ∀ args w, (callFunc 21 args).run Try.prog w = .ok (.enter 21 args) w := fun _ _ => by kernel_rfl
theorem k29_hcf22 : ∀ args w, (callFunc 22 args).run Try.prog w = .ok (.enter 22 args) w := fun _ _ => by kernel_rfl
theorem k29_hcf23 : ∀ args w, (callFunc 23 args).run Try.prog w = .ok (.enter 23 args) w := fun _ _ => by kernel_rfl
theorem k29_hcf24 : ∀ args w, (callFunc 24 args).run Try.prog w = .ok (.enter 24 args) w := fun _ _ => by kernel_rfl
theorem k29_hcf25 : ∀ args w, (callFunc 25 args).run Try.prog w = .ok (.enter 25 args) w := fun _ _ => by kernel_rfl
theorem k29_hcf26 : ∀ args w, (callFunc 26 args).run Try.prog w = .ok (.enter 26 args) w := fun _ _ => by kernel_rfl
theorem k29_sl22 : SlIs Try.prog 22 3 1 8 (.int .i64 0) := ⟨by kernel_rfl, by kernel_rfl, by kernel_rfl⟩
theorem k29_sl49 : SlIs Try.prog 49 118 4 32 (.agg #[.int .i64 0, .int .i64 0, .int .i64 0, .bool false]) := ⟨by kernel_rfl, by kernel_rfl, by kernel_rfl⟩
theorem k29_sz42 : (Try.prog.info? 42).map (·.size) = some 2 := by kernel_rfl
theorem k29_ty22 : TyIs Try.prog 22 false 1 := ⟨by kernel_rfl, by kernel_rfl⟩
theorem k29_ty3 : TyIs Try.prog 3 false 1 := ⟨by kernel_rfl, by kernel_rfl⟩
theorem k29_ty49 : TyIs Try.prog 49 false 1 := ⟨by kernel_rfl, by kernel_rfl⟩
theorem k29_ty51 : TyIs Try.prog 51 true 2 := ⟨by kernel_rfl, by kernel_rfl⟩
theorem k29_ty53 : TyIs Try.prog 53 true 3 := ⟨by kernel_rfl, by kernel_rfl⟩
theorem k29_ty54 : TyIs Try.prog 54 true 2 := ⟨by kernel_rfl, by kernel_rfl⟩

theorem tmod_emod {n k : Int} (hk : 1 ≤ k) : (n.tmod k < 0 → n.tmod k + k = n % k) ∧ (¬ n.tmod k < 0 → n.tmod k = n % k) := by
  have h1 := Int.mul_tdiv_add_tmod n k
  have h2 : n.tmod k < k := Int.tmod_lt_of_pos n (by omega)
  have h3 : -k < n.tmod k := Int.lt_tmod_of_pos n (by omega)
  constructor
  · intro h
    have := (Int.ediv_emod_unique (a := n) (b := k) (r := n.tmod k + k) (q := n.tdiv k - 1) (by omega)).2 ⟨by rw [Int.mul_sub]; omega, by omega, by omega⟩
    exact this.2.symm
  · intro h
    have := (Int.ediv_emod_unique (a := n) (b := k) (r := n.tmod k) (q := n.tdiv k) (by omega)).2 ⟨by omega, by omega, h2⟩
    exact this.2.symm
set_option maxRecDepth 100000 in
set_option maxHeartbeats 1000000 in
theorem bMod_ok (n k : Int) (hk : 1 ≤ k ∧ k ≤ 1000000000) : FnOk Try.prog 26 [iA n, iA k] (fun q => q = iA (n % k)) := by
  have h2 : n.tmod k < k := Int.tmod_lt_of_pos n (by omega)
  have h3 : -k < n.tmod k := Int.lt_tmod_of_pos n (by omega)
  have hf := tmod_emod (n := n) hk.1
  refine fnOk_of (fn := Try.f26) 14 (by kernel_rfl) rfl (by kernel_rfl) (Nat.le_of_ble_eq_true rfl) ?_
  intro e_0 m_0 hA hm_0
  have s0_0 : evA e_0 (.tmp 0) = _ := hA 0 _ rfl
  have s1_0 : evA e_0 (.tmp 1) = _ := hA 1 _ rfl
  have ml_0 : m_0.length = 0 := by rw [hm_0]; rfl
  clear hA hm_0
  refine aw_seq ?_
  refine aw_text (by kernel_rfl) ?_
  refine al_ro' (ro_assign ev_c) trivial rfl ?_
  refine al_end (fun e_1 he_1 => ?_)
  have s0_1 := ef 0 he_1 (up_m rfl s0_0)
  have s1_1 := ef 1 he_1 (up_m rfl s1_0)
  clear he_1 s0_0 s1_0
  refine then_n ?_
  refine aw_seq ?_
  refine aw_text (by kernel_rfl) ?_
  refine al_ro' (ro_move s0_1) trivial rfl ?_
  refine al_ro' (ro_move (up_m rfl s1_1)) trivial rfl ?_
  refine al_ro' (ro_rem (up_m rfl up_h) up_h (by first | decide | omega)) trivial rfl ?_
  refine al_ro' (ro_assign up_h) trivial rfl ?_
  refine al_end (fun e_2 he_2 => ?_)
  have s0_2 := ef 0 he_2 up_h
  have s1_2 := ef 1 he_2 (u4 rfl s1_1)
  clear he_2 s0_1 s1_1
  refine then_n ?_
  refine aw_seq ?_
  refine aw_seq ?_
  refine aw_text (by kernel_rfl) ?_
  refine al_ro' (ro_move s0_2) trivial rfl ?_
  refine al_ro' (ro_lss up_h ev_c) trivial rfl ?_
  refine al_end (fun e_3 he_3 => ?_)
  have s0_3 := ef 0 he_3 (u2 rfl s0_2)
  have s1_3 := ef 1 he_3 (u2 rfl s1_2)
  have s9_3 := ef 9 he_3 up_h
  clear he_3 s0_2 s1_2
  refine then_n ?_
  refine aw_case s9_3 (fun hq_4 => ?_) (fun hq_4 => ?_)
  · (first | replace hq_4 := bnt hq_4 | replace hq_4 := bnf hq_4 | replace hq_4 := bt hq_4 | replace hq_4 := bf hq_4 | replace hq_4 := bt' hq_4 | replace hq_4 := bf' hq_4 | skip)
    first
    | (cases hq_4; done) | (exfalso; omega)
    | (
       refine aw_text (by kernel_rfl) ?_
       refine al_ro' (ro_move s0_3) trivial rfl ?_
       refine al_ro' (ro_move (up_m rfl s1_3)) trivial rfl ?_
       first | (refine al_ro' (ro_add' (up_m rfl up_h) up_h ?_) trivial rfl ?_; · (unfold In64; omega)) | refine al_ro' (ro_add (up_m rfl up_h) up_h) trivial rfl ?_
       refine al_ro' (ro_assign up_h) trivial rfl ?_
       refine al_end (fun e_5 he_5 => ?_)
       have s0_5 := ef 0 he_5 up_h
       clear he_5 s0_3 s1_3 s9_3
       refine then_n ?_
       refine aw_seq ?_
       refine aw_text (by kernel_rfl) ?_
       refine al_ro' (ro_move s0_5) trivial rfl ?_
       refine al_ro' (ro_assign up_h) trivial rfl ?_
       refine al_end (fun e_6 he_6 => ?_)
       have s4_6 := ef 4 he_6 up_h
       clear he_6 s0_5
       refine then_n ?_
       refine aw_ret ?_
       refine ret1 (.inr rfl) (by kernel_rfl) (resV_tmp s4_6) (.ro _ rfl) ?_
       clear s4_6  ml_0
       (refine avi ?_; exact hf.1 (by assumption)))
  · (first | replace hq_4 := bnt hq_4 | replace hq_4 := bnf hq_4 | replace hq_4 := bt hq_4 | replace hq_4 := bf hq_4 | replace hq_4 := bt' hq_4 | replace hq_4 := bf' hq_4 | skip)
    first
    | (cases hq_4; done) | (exfalso; omega)
    | (
       refine aw_skip ?_
       refine then_n ?_
       refine aw_seq ?_
       refine aw_text (by kernel_rfl) ?_
       refine al_ro' (ro_move s0_3) trivial rfl ?_
       refine al_ro' (ro_assign up_h) trivial rfl ?_
       refine al_end (fun e_7 he_7 => ?_)
       have s4_7 := ef 4 he_7 up_h
       clear he_7 s0_3 s1_3 s9_3
       refine then_n ?_
       refine aw_ret ?_
       refine ret1 (.inr rfl) (by kernel_rfl) (resV_tmp s4_7) (.ro _ rfl) ?_
       clear s4_7  ml_0
       (refine avi ?_; exact hf.2 (by assumption)))
/-- What CheckSquares answers. -/
def ckk (nm : ByteArray) (ps : List Piece) (b d v : Int) (xs : List Int) : Int := if cskE nm ps b d v xs = 0 then (cskW ps b v xs).1 else 0
def ckf (nm : ByteArray) (ps : List Piece) (b d v : Int) (xs : List Int) : Int := if cskE nm ps b d v xs = 0 then (cskW ps b v xs).2 else cskE nm ps b d v xs
theorem ck_zero {nm : ByteArray} {ps : List Piece} {b d v : Int} {xs : List Int} (h : ckf nm ps b d v xs = 0) : sqsE ps xs = 0 ∧ ckk nm ps b d v xs = 0 ∧ ∀ j : Nat, j < xs.length → ¬ cskB ps b v xs j := by
  unfold ckf at h
  unfold ckk
  by_cases hc : cskE nm ps b d v xs = 0
  · rw [if_pos hc] at h ⊢
    obtain ⟨h1, h2⟩ := csk_zero h
    exact ⟨(firstE_cons (firstE_cons hc).2).1, h1, h2⟩
  · rw [if_neg hc] at h; exact absurd h hc
theorem ck_ok {nm : ByteArray} {ps : List Piece} {b d v : Int} {xs : List Int} (h0 : firstE [(chk nm ps).2, sysE b d v] = 0) (h1 : sqsE ps xs = 0) (h2 : ∀ j : Nat, j < xs.length → ¬ cskB ps b v xs j) : ckf nm ps b d v xs = 0 ∧ ckk nm ps b d v xs = 0 := by
  have hc : cskE nm ps b d v xs = 0 := by unfold cskE; rw [h0, h1]; rfl
  have hw : cskW ps b v xs = (0, 0) := by
    unfold cskW
    rw [show ((List.range xs.length).find? fun i => decide (cskB ps b v xs i)) = none from List.find?_eq_none.2 fun x hx => by simpa using h2 x (by simpa using hx)]
  unfold ckf ckk
  rw [if_pos hc, if_pos hc, hw]; exact ⟨rfl, rfl⟩
theorem sqs_zero {ps : List Piece} {xs : List Int} (h1 : xs.length = ps.length + 1) (h2 : ∀ j : Nat, 0 ≤ xs.getD j default ∧ xs.getD j default ≤ 20000000000) : sqsE ps xs = 0 := by
  unfold sqsE
  rw [if_pos h1, if_pos]
  exact all_pre (n := xs.length) (fun j _ => by have := h2 j; simp only [withinB, Bool.and_eq_true, decide_eq_true_eq]; exact this) (Nat.le_refl _)
theorem times_or {ps : List Piece} (hok : Ok ps) {xs ys : List Int} (hx : ∀ j : Nat, 0 ≤ xs.getD j default ∧ xs.getD j default ≤ 20000000000) (hy : ∀ j : Nat, 0 ≤ ys.getD j default ∧ ys.getD j default ≤ 20000000000) (h : ∀ j : Nat, j ≤ ps.length → xs.getD j default ≤ ys.getD j default) :
    (timW ps xs).2 ≠ 0 ∨ ((timW ps ys).2 = 0 ∧ (timW ps ys).1.1 ≤ (timW ps xs).1.1 ∧ (timW ps ys).1.2 ≤ (timW ps xs).1.2) := by
  by_cases h0 : (timW ps xs).2 = 0
  · exact .inr (times_mono hok hx hy h h0)
  · exact .inl h0
def rivB (nm : ByteArray) (ps : List Piece) (b d v e0 e1 : Int) (xs : List Int) : Prop := ckf nm ps b d v xs = 0 ∧ xs.length = ps.length + 1 ∧ xs.getD 0 default = e0 ∧ xs.getD ps.length default ≤ e1
instance (nm : ByteArray) (ps : List Piece) (b d v e0 e1 : Int) (xs : List Int) : Decidable (rivB nm ps b d v e0 e1 xs) := by unfold rivB; exact inferInstance
theorem riv_rival {nm : ByteArray} {ps : List Piece} {b d v e0 e1 : Int} {xs : List Int} (h : rivB nm ps b d v e0 e1 xs) : rivalP ps b v e0 e1 xs ∧ ckk nm ps b d v xs = 0 := by
  obtain ⟨h1, h2, h3, h4⟩ := h
  obtain ⟨h5, h6, h7⟩ := ck_zero h1
  exact ⟨⟨h2, (sqs_right h5).2, h7, h3, h4⟩, h6⟩
theorem rival_greater {ps : List Piece} {b v e0 e1 e1' : Int} {xs : List Int} (h : rivalP ps b v e0 e1 xs) (he : e1 ≤ e1') : rivalP ps b v e0 e1' xs :=
  ⟨h.1, h.2.1, h.2.2.1, h.2.2.2.1, by have := h.2.2.2.2; omega⟩
/-- What the law finds where there are fastest squares. -/
theorem fast_all {nm : ByteArray} {ps : List Piece} {b d v e0 e1 : Int} (h0 : firstE [(chk nm ps).2, sysE b d v] = 0) (he0 : 0 ≤ e0 ∧ e0 ≤ 20000000000) (h : (fasW ps b v e0 e1).2 = 0) :
    rivalP ps b v e0 e1 (fasW ps b v e0 e1).1 ∧ sqsE ps (fasW ps b v e0 e1).1 = 0 ∧ ckf nm ps b d v (fasW ps b v e0 e1).1 = 0 ∧ ckk nm ps b d v (fasW ps b v e0 e1).1 = 0 := by
  obtain ⟨h1, h2⟩ := firstE_cons h0
  have hok := chk_right h1
  have hs := sys_right (firstE_cons h2).1
  have hr := fast_runs (d := d) hok.1 hs he0 h
  have hz := sqs_zero hr.1 hr.2.1
  have := ck_ok (d := d) h0 hz hr.2.2.1
  exact ⟨hr, hz, this.1, this.2⟩
section
variable {nm : ByteArray} {ps : List Piece} (hs : nm.size ≤ 1000000000) (hp : ps.length ≤ 1000000000) {b d v : Int}
include hs hp
theorem fastest0_ok {e0 e1 : Int} (h0 : firstE [(chk nm ps).2, sysE b d v] = 0) (he0 : 0 ≤ e0 ∧ e0 ≤ 20000000000) (he1 : 0 ≤ e1 ∧ e1 ≤ 20000000000) : FnOk Try.prog 20 [trA nm ps, syA b d v, .agg [iA e0, iA e1]] (fun q => q = .tuple [.row 1 ((fasW ps b v e0 e1).1.map iE), iA (fasW ps b v e0 e1).2]) := by
  have hf : fasE nm ps b d v e0 e1 = 0 := by
    unfold fasE
    rw [h0, show withinB e0 0 20000000000 = true by simpa [withinB] using he0, show withinB e1 0 20000000000 = true by simpa [withinB] using he1]; rfl
  refine (fastest_ok nm ps hs hp b d v e0 e1).mono fun q h => ?_
  rw [h, if_pos hf, if_pos hf]
theorem checkSquares0_ok {xs : List Int} (hx : xs.length ≤ 1000000000) : FnOk Try.prog 22 [trA nm ps, syA b d v, .row 1 (xs.map iE)] (fun q => q = .tuple [iA (ckk nm ps b d v xs), iA (ckf nm ps b d v xs)]) :=
  checkSquares_ok nm ps hs hp b d v xs hx
theorem checkSquares1_ok {xs : List Int} (hx : xs.length ≤ 1000000000) (h : ckf nm ps b d v xs = 0 ∧ ckk nm ps b d v xs = 0) : FnOk Try.prog 22 [trA nm ps, syA b d v, .row 1 (xs.map iE)] (fun q => q = .tuple [iA 0, iA 0]) :=
  (checkSquares0_ok hs hp hx).mono fun q hq => by rw [hq, h.1, h.2]
theorem timeOf0_ok {xs : List Int} (hx : xs.length ≤ 1000000000) (h : (chk nm ps).2 = 0) (h1 : sqsE ps xs = 0) : FnOk Try.prog 25 [trA nm ps, .row 1 (xs.map iE)] (fun q => q = .tuple [.agg [iA (timW ps xs).1.1, iA (timW ps xs).1.2], iA (timW ps xs).2]) := by
  have hf : timE nm ps xs = 0 := by unfold timE; rw [h, h1]; rfl
  refine (timeOf_ok nm ps hs hp xs hx).mono fun q hq => ?_
  rw [hq, if_pos hf, if_pos hf]
end

set_option maxRecDepth 100000 in
set_option maxHeartbeats 4000000 in
theorem brakeNoFaster_ok (nm : ByteArray) (ps : List Piece) (b d v : Int) (e0 e1 : Int) (xs : List Int) (more : Int) : FnOk Try.prog 4 [trA nm ps, syA b d v, .agg [iA e0, iA e1, .row 1 (xs.map iE), iA more]] (fun q => q = bA true) := by
  have hmo : 0 ≤ more % 100000 ∧ more % 100000 < 100000 := ⟨Int.emod_nonneg _ (by decide), Int.emod_lt_of_pos _ (by decide)⟩
  refine fnOk_of (fn := Try.f4) 261 (by kernel_rfl) rfl (by kernel_rfl) (Nat.le_of_ble_eq_true rfl) ?_
  intro e_0 m_0 hA hm_0
  have s0_0 : evA e_0 (.tmp 0) = _ := hA 0 _ rfl
  have s1_0 : evA e_0 (.tmp 1) = _ := hA 1 _ rfl
  have s2_0 : evA e_0 (.tmp 2) = _ := hA 2 _ rfl
  have ml_0 : m_0.length = 0 := by rw [hm_0]; rfl
  clear hA hm_0
  refine aw_seq ?_
  refine aw_text (by kernel_rfl) ?_
  refine al_stm (st_box s0_0 rfl ml_0) trivial rfl (fun m_1 hm_1 => ?_)
  have mo0_1 := m_push hm_1 ml_0
  (try simp only [packA_t, packA_f, iE, bE, setAt, cellsA, Value.cells, map_vc, map_vn, Nat.reduceAdd, qS] at mo0_1)
  have ml_1 := m_push_l hm_1 ml_0
  have ml_1 : _ = 1 := ml_1
  clear hm_1
  refine al_stm (st_box (up_m rfl s1_0) rfl ml_1) trivial rfl (fun m_2 hm_2 => ?_)
  have mo1_2 := m_push hm_2 ml_1
  (try simp only [packA_t, packA_f, iE, bE, setAt, cellsA, Value.cells, map_vc, map_vn, Nat.reduceAdd, qS] at mo1_2)
  have mo0_2 := m_push_o hm_2 mo0_1
  have ml_2 := m_push_l hm_2 ml_1
  have ml_2 : _ = 2 := ml_2
  clear hm_2 mo0_1
  refine al_stm (st_box (u2 rfl s2_0) rfl ml_2) trivial rfl (fun m_3 hm_3 => ?_)
  have mo2_3 := m_push hm_3 ml_2
  (try simp only [packA_t, packA_f, iE, bE, setAt, cellsA, Value.cells, map_vc, map_vn, Nat.reduceAdd, qS] at mo2_3)
  have mo1_3 := m_push_o hm_3 mo1_2
  have mo0_3 := m_push_o hm_3 mo0_2
  have ml_3 := m_push_l hm_3 ml_2
  have ml_3 : _ = 3 := ml_3
  clear hm_3 mo1_2 mo0_2
  refine al_ro' (ro_assign ev_c) trivial rfl ?_
  refine al_end (fun e_4 he_4 => ?_)
  have s3_4 := ef 3 he_4 (up_m rfl (u2 rfl up_h))
  have s4_4 := ef 4 he_4 (u2 rfl up_h)
  have s5_4 := ef 5 he_4 (up_m rfl up_h)
  clear he_4 s0_0 s1_0 s2_0
  refine then_n ?_
  refine aw_seq ?_
  refine aw_seq ?_
  refine aw_text (by kernel_rfl) ?_
  refine al_ro' (ro_call evL_nil rfl (awake_ok) k29_hcf17) trivial rfl ?_
  refine al_ro' (ro_not up_h) trivial rfl ?_
  refine al_end (fun e_5 he_5 => ?_)
  have s3_5 := ef 3 he_5 (u2 rfl s3_4)
  have s4_5 := ef 4 he_5 (u2 rfl s4_4)
  have s5_5 := ef 5 he_5 (u2 rfl s5_4)
  have s24_5 := ef 24 he_5 up_h
  clear he_5 s3_4 s4_4 s5_4
  refine then_n ?_
  refine aw_case s24_5 (fun hq_6 => ?_) (fun hq_6 => ?_)
  · (first | replace hq_6 := bnt hq_6 | replace hq_6 := bnf hq_6 | replace hq_6 := bt hq_6 | replace hq_6 := bf hq_6 | replace hq_6 := bt' hq_6 | replace hq_6 := bf' hq_6 | skip)
    first
    | (cases hq_6; done) | (exfalso; omega)
    | (
       refine aw_seq ?_
       refine aw_text (by kernel_rfl) ?_
       refine al_ro' (ro_assign ev_c) trivial rfl ?_
       refine al_end (fun e_7 he_7 => ?_)
       have s6_7 := ef 6 he_7 up_h
       clear he_7 s24_5 s3_5 s4_5 s5_5
       refine then_n ?_
       refine aw_ret ?_
       refine then_r ?_
       refine ret1 (.inr rfl) (by kernel_rfl) (resV_tmp s6_7) (.ro _ rfl) ?_
       clear s6_7 mo2_3 mo1_3 mo0_3 ml_3
       (first | rfl | (exfalso; omega) | (simp; done) | (simp [h12, hnr]; done)))
  · (first | replace hq_6 := bnt hq_6 | replace hq_6 := bnf hq_6 | replace hq_6 := bt hq_6 | replace hq_6 := bf hq_6 | replace hq_6 := bt' hq_6 | replace hq_6 := bf' hq_6 | skip)
    first
    | (cases hq_6; done) | (exfalso; omega)
    | (
       refine aw_skip ?_
       refine then_n ?_
       refine aw_seq ?_
       refine aw_seq ?_
       refine aw_cut (fun e mem => (evA e (.tmp 53) = .v (.bool (decide (¬ (nm.size ≤ 30 ∧ ps.length ≤ 14) ∨ firstE [(chk nm ps).2, sysE b d v] ≠ 0 ∨ withinB e0 0 20000000000 = false ∨ withinB e1 0 20000000000 = false ∨ 16 < xs.length)))) ∧ (evA e (.tmp 3) = evA e_5 (.tmp 3)) ∧ (evA e (.tmp 4) = evA e_5 (.tmp 4)) ∧ (evA e (.tmp 5) = evA e_5 (.tmp 5)) ∧ m_3 = mem) ?_ ?_
       ·
         refine aw_text (by kernel_rfl) ?_
         refine al_ro' (ro_eq (ro_ld_ptr k29_ty51 rfl mo0_3 s3_5 (by first | exact Nat.le_of_ble_eq_true rfl | omega | (simp only [lnS] <;> omega) | (simp <;> omega))) (by first | (simp only [packA_t, packA_f, iE, bE, setAt, cellsA, Value.cells, map_vc, map_vn, Nat.reduceAdd, qS] <;> rfl) | rfl)) trivial rfl ?_
         refine al_ro' (ro_call (evL_cons up_h evL_nil) rfl (short_ok nm ps) k29_hcf18) trivial rfl ?_
         refine al_ro' (ro_not up_h) trivial rfl ?_
         refine al_ro' (ro_move up_h) trivial rfl ?_
         refine al_case up_h (fun hb_9 hq_9 => ?_) (fun hb_9 hq_9 => ?_)
         · (first | replace hq_9 := bnt hq_9 | replace hq_9 := bnf hq_9 | replace hq_9 := bt hq_9 | replace hq_9 := bf hq_9 | replace hq_9 := bt' hq_9 | replace hq_9 := bf' hq_9 | skip)
           first
           | (cases hq_9; done) | (exfalso; omega)
           | (
              refine al_skip' ⟨_, rfl, .inl hb_9⟩ rfl ?_
              refine al_skip' ⟨_, rfl, .inl (up_m rfl hb_9)⟩ rfl ?_
              refine al_skip' ⟨_, rfl, .inl (u2 rfl hb_9)⟩ rfl ?_
              refine al_skip' ⟨_, rfl, .inl (up_m rfl (u2 rfl hb_9))⟩ rfl ?_
              refine al_ro' (ro_pickT (u4 rfl hb_9) ev_c) trivial rfl ?_
              refine al_ro' (ro_move up_h) trivial rfl ?_
              refine al_skip' ⟨_, rfl, .inl up_h⟩ rfl ?_
              refine al_skip' ⟨_, rfl, .inl (up_m rfl up_h)⟩ rfl ?_
              refine al_skip' ⟨_, rfl, .inl (u2 rfl up_h)⟩ rfl ?_
              refine al_skip' ⟨_, rfl, .inl (up_m rfl (u2 rfl up_h))⟩ rfl ?_
              refine al_skip' ⟨_, rfl, .inl (u4 rfl up_h)⟩ rfl ?_
              refine al_ro' (ro_pickT (up_m rfl (u4 rfl up_h)) ev_c) trivial rfl ?_
              refine al_ro' (ro_move up_h) trivial rfl ?_
              refine al_skip' ⟨_, rfl, .inl up_h⟩ rfl ?_
              refine al_skip' ⟨_, rfl, .inl (up_m rfl up_h)⟩ rfl ?_
              refine al_skip' ⟨_, rfl, .inl (u2 rfl up_h)⟩ rfl ?_
              refine al_skip' ⟨_, rfl, .inl (up_m rfl (u2 rfl up_h))⟩ rfl ?_
              refine al_skip' ⟨_, rfl, .inl (u4 rfl up_h)⟩ rfl ?_
              refine al_ro' (ro_pickT (up_m rfl (u4 rfl up_h)) ev_c) trivial rfl ?_
              refine al_ro' (ro_move up_h) trivial rfl ?_
              refine al_skip' ⟨_, rfl, .inl up_h⟩ rfl ?_
              refine al_skip' ⟨_, rfl, .inl (up_m rfl up_h)⟩ rfl ?_
              refine al_skip' ⟨_, rfl, .inl (u2 rfl up_h)⟩ rfl ?_
              refine al_skip' ⟨_, rfl, .inl (up_m rfl (u2 rfl up_h))⟩ rfl ?_
              refine al_ro' (ro_pickT (u4 rfl up_h) ev_c) trivial rfl ?_
              refine al_end (fun e_10 he_10 => ?_)
              have s3_10 := ef 3 he_10 (up_m rfl (u4 rfl (u8 rfl (u16 rfl s3_5))))
              have s4_10 := ef 4 he_10 (up_m rfl (u4 rfl (u8 rfl (u16 rfl s4_5))))
              have s5_10 := ef 5 he_10 (up_m rfl (u4 rfl (u8 rfl (u16 rfl s5_5))))
              have s53_10 := ef 53 he_10 up_h
              clear he_10
              refine then_n ⟨(s53_10).trans (by (refine avb ?_; simp only [decide_eq_true_eq, Bool.false_eq_true, true_iff, false_iff]; first | omega | (exact Or.inr (Or.inr (Or.inl (by assumption)))) | (exact Or.inr (Or.inr (Or.inr (Or.inl (by assumption))))) | (refine ⟨fun h => .inr (.inr (.inr (.inr (by omega)))), ?_⟩; rintro (h | h | h | h | h) <;> first | omega | (have h' : withinB e0 0 20000000000 = true := (by assumption); rw [h] at h'; cases h') | (have h' : withinB e1 0 20000000000 = true := (by assumption); rw [h] at h'; cases h')))), (s3_10).trans (s3_5).symm, (s4_10).trans (s4_5).symm, (s5_10).trans (s5_5).symm, rfl⟩)
         · (first | replace hq_9 := bnt hq_9 | replace hq_9 := bnf hq_9 | replace hq_9 := bt hq_9 | replace hq_9 := bf hq_9 | replace hq_9 := bt' hq_9 | replace hq_9 := bf' hq_9 | skip)
           first
           | (cases hq_9; done) | (exfalso; omega)
           | (
              refine al_ro' (ro_eq (ro_ld_ptr k29_ty51 rfl mo0_3 (u4 rfl s3_5) (by first | exact Nat.le_of_ble_eq_true rfl | omega | (simp only [lnS] <;> omega) | (simp <;> omega))) (by first | (simp only [packA_t, packA_f, iE, bE, setAt, cellsA, Value.cells, map_vc, map_vn, Nat.reduceAdd, qS] <;> rfl) | rfl)) ⟨_, rfl, hb_9⟩ rfl ?_
              refine al_ro' (ro_eq (ro_ld_ptr k29_ty53 rfl mo1_3 (up_m rfl (u4 rfl s4_5)) (by first | exact Nat.le_of_ble_eq_true rfl | omega | (simp only [lnS] <;> omega) | (simp <;> omega))) (by first | (simp only [packA_t, packA_f, iE, bE, setAt, cellsA, Value.cells, map_vc, map_vn, Nat.reduceAdd, qS] <;> rfl) | rfl)) ⟨_, rfl, (up_m rfl hb_9)⟩ rfl ?_
              refine al_ro' (ro_call (evL_cons (up_m rfl up_h) (evL_cons up_h evL_nil)) rfl (rBothErr_ok nm ps (by omega) (by omega) b d v) k29_hcf19) ⟨_, rfl, (u2 rfl hb_9)⟩ rfl ?_
              refine al_ro' (ro_neq up_h ev_c) ⟨_, rfl, (up_m rfl (u2 rfl hb_9))⟩ rfl ?_
              refine al_ro' (ro_pickF (u4 rfl hb_9) up_h) trivial rfl ?_
              refine al_ro' (ro_move up_h) trivial rfl ?_
              refine al_case up_h (fun hb_11 hq_11 => ?_) (fun hb_11 hq_11 => ?_)
              · (first | replace hq_11 := bnt hq_11 | replace hq_11 := bnf hq_11 | replace hq_11 := bt hq_11 | replace hq_11 := bf hq_11 | replace hq_11 := bt' hq_11 | replace hq_11 := bf' hq_11 | skip)
                first
                | (cases hq_11; done) | (exfalso; omega)
                | (
                   refine al_skip' ⟨_, rfl, .inl hb_11⟩ rfl ?_
                   refine al_skip' ⟨_, rfl, .inl (up_m rfl hb_11)⟩ rfl ?_
                   refine al_skip' ⟨_, rfl, .inl (u2 rfl hb_11)⟩ rfl ?_
                   refine al_skip' ⟨_, rfl, .inl (up_m rfl (u2 rfl hb_11))⟩ rfl ?_
                   refine al_skip' ⟨_, rfl, .inl (u4 rfl hb_11)⟩ rfl ?_
                   refine al_ro' (ro_pickT (up_m rfl (u4 rfl hb_11)) ev_c) trivial rfl ?_
                   refine al_ro' (ro_move up_h) trivial rfl ?_
                   refine al_skip' ⟨_, rfl, .inl up_h⟩ rfl ?_
                   refine al_skip' ⟨_, rfl, .inl (up_m rfl up_h)⟩ rfl ?_
                   refine al_skip' ⟨_, rfl, .inl (u2 rfl up_h)⟩ rfl ?_
                   refine al_skip' ⟨_, rfl, .inl (up_m rfl (u2 rfl up_h))⟩ rfl ?_
                   refine al_skip' ⟨_, rfl, .inl (u4 rfl up_h)⟩ rfl ?_
                   refine al_ro' (ro_pickT (up_m rfl (u4 rfl up_h)) ev_c) trivial rfl ?_
                   refine al_ro' (ro_move up_h) trivial rfl ?_
                   refine al_skip' ⟨_, rfl, .inl up_h⟩ rfl ?_
                   refine al_skip' ⟨_, rfl, .inl (up_m rfl up_h)⟩ rfl ?_
                   refine al_skip' ⟨_, rfl, .inl (u2 rfl up_h)⟩ rfl ?_
                   refine al_skip' ⟨_, rfl, .inl (up_m rfl (u2 rfl up_h))⟩ rfl ?_
                   refine al_ro' (ro_pickT (u4 rfl up_h) ev_c) trivial rfl ?_
                   refine al_end (fun e_12 he_12 => ?_)
                   have s3_12 := ef 3 he_12 (up_m rfl (u4 rfl (u8 rfl (u16 rfl s3_5))))
                   have s4_12 := ef 4 he_12 (up_m rfl (u4 rfl (u8 rfl (u16 rfl s4_5))))
                   have s5_12 := ef 5 he_12 (up_m rfl (u4 rfl (u8 rfl (u16 rfl s5_5))))
                   have s53_12 := ef 53 he_12 up_h
                   clear he_12
                   refine then_n ⟨(s53_12).trans (by (refine avb ?_; simp only [decide_eq_true_eq, Bool.false_eq_true, true_iff, false_iff]; first | omega | (exact Or.inr (Or.inr (Or.inl (by assumption)))) | (exact Or.inr (Or.inr (Or.inr (Or.inl (by assumption))))) | (refine ⟨fun h => .inr (.inr (.inr (.inr (by omega)))), ?_⟩; rintro (h | h | h | h | h) <;> first | omega | (have h' : withinB e0 0 20000000000 = true := (by assumption); rw [h] at h'; cases h') | (have h' : withinB e1 0 20000000000 = true := (by assumption); rw [h] at h'; cases h')))), (s3_12).trans (s3_5).symm, (s4_12).trans (s4_5).symm, (s5_12).trans (s5_5).symm, rfl⟩)
              · (first | replace hq_11 := bnt hq_11 | replace hq_11 := bnf hq_11 | replace hq_11 := bt hq_11 | replace hq_11 := bf hq_11 | replace hq_11 := bt' hq_11 | replace hq_11 := bf' hq_11 | skip)
                first
                | (cases hq_11; done) | (exfalso; omega)
                | (
                   refine al_ro' (ro_fld_ptr k29_fl56_0 rfl (u2 rfl (u8 rfl s5_5))) ⟨_, rfl, hb_11⟩ rfl ?_
                   refine al_ro' (ro_ixa k29_ar54 up_h ev_c rfl) ⟨_, rfl, (up_m rfl hb_11)⟩ rfl ?_
                   refine al_ro' (ro_eq (ro_ld_ptr k29_ty3 rfl mo2_3 up_h (by first | exact Nat.le_of_ble_eq_true rfl | omega | (simp only [lnS] <;> omega) | (simp <;> omega))) (by first | (simp only [packA_t, packA_f, iE, bE, setAt, cellsA, Value.cells, map_vc, map_vn, Nat.reduceAdd, qS] <;> rfl) | rfl)) ⟨_, rfl, (u2 rfl hb_11)⟩ rfl ?_
                   refine al_ro' (ro_call (evL_cons up_h (evL_cons ev_c (evL_cons ev_c evL_nil))) rfl (bWithin_ok _ _ _) k29_hcf10) ⟨_, rfl, (up_m rfl (u2 rfl hb_11))⟩ rfl ?_
                   refine al_ro' (ro_not up_h) ⟨_, rfl, (u4 rfl hb_11)⟩ rfl ?_
                   refine al_ro' (ro_pickF (up_m rfl (u4 rfl hb_11)) up_h) trivial rfl ?_
                   refine al_ro' (ro_move up_h) trivial rfl ?_
                   refine al_case up_h (fun hb_13 hq_13 => ?_) (fun hb_13 hq_13 => ?_)
                   · (first | replace hq_13 := bnt hq_13 | replace hq_13 := bnf hq_13 | replace hq_13 := bt hq_13 | replace hq_13 := bf hq_13 | replace hq_13 := bt' hq_13 | replace hq_13 := bf' hq_13 | skip)
                     first
                     | (cases hq_13; done) | (exfalso; omega)
                     | (
                        refine al_skip' ⟨_, rfl, .inl hb_13⟩ rfl ?_
                        refine al_skip' ⟨_, rfl, .inl (up_m rfl hb_13)⟩ rfl ?_
                        refine al_skip' ⟨_, rfl, .inl (u2 rfl hb_13)⟩ rfl ?_
                        refine al_skip' ⟨_, rfl, .inl (up_m rfl (u2 rfl hb_13))⟩ rfl ?_
                        refine al_skip' ⟨_, rfl, .inl (u4 rfl hb_13)⟩ rfl ?_
                        refine al_ro' (ro_pickT (up_m rfl (u4 rfl hb_13)) ev_c) trivial rfl ?_
                        refine al_ro' (ro_move up_h) trivial rfl ?_
                        refine al_skip' ⟨_, rfl, .inl up_h⟩ rfl ?_
                        refine al_skip' ⟨_, rfl, .inl (up_m rfl up_h)⟩ rfl ?_
                        refine al_skip' ⟨_, rfl, .inl (u2 rfl up_h)⟩ rfl ?_
                        refine al_skip' ⟨_, rfl, .inl (up_m rfl (u2 rfl up_h))⟩ rfl ?_
                        refine al_ro' (ro_pickT (u4 rfl up_h) ev_c) trivial rfl ?_
                        refine al_end (fun e_14 he_14 => ?_)
                        have s3_14 := ef 3 he_14 (up_m rfl (u4 rfl (u8 rfl (u16 rfl s3_5))))
                        have s4_14 := ef 4 he_14 (up_m rfl (u4 rfl (u8 rfl (u16 rfl s4_5))))
                        have s5_14 := ef 5 he_14 (up_m rfl (u4 rfl (u8 rfl (u16 rfl s5_5))))
                        have s53_14 := ef 53 he_14 up_h
                        clear he_14
                        refine then_n ⟨(s53_14).trans (by (refine avb ?_; simp only [decide_eq_true_eq, Bool.false_eq_true, true_iff, false_iff]; first | omega | (exact Or.inr (Or.inr (Or.inl (by assumption)))) | (exact Or.inr (Or.inr (Or.inr (Or.inl (by assumption))))) | (refine ⟨fun h => .inr (.inr (.inr (.inr (by omega)))), ?_⟩; rintro (h | h | h | h | h) <;> first | omega | (have h' : withinB e0 0 20000000000 = true := (by assumption); rw [h] at h'; cases h') | (have h' : withinB e1 0 20000000000 = true := (by assumption); rw [h] at h'; cases h')))), (s3_14).trans (s3_5).symm, (s4_14).trans (s4_5).symm, (s5_14).trans (s5_5).symm, rfl⟩)
                   · (first | replace hq_13 := bnt hq_13 | replace hq_13 := bnf hq_13 | replace hq_13 := bt hq_13 | replace hq_13 := bf hq_13 | replace hq_13 := bt' hq_13 | replace hq_13 := bf' hq_13 | skip)
                     first
                     | (cases hq_13; done) | (exfalso; omega)
                     | (
                        refine al_ro' (ro_fld_ptr k29_fl56_0 rfl (up_m rfl (u16 rfl s5_5))) ⟨_, rfl, hb_13⟩ rfl ?_
                        refine al_ro' (ro_ixa k29_ar54 up_h ev_c rfl) ⟨_, rfl, (up_m rfl hb_13)⟩ rfl ?_
                        refine al_ro' (ro_eq (ro_ld_ptr k29_ty3 rfl mo2_3 up_h (by first | exact Nat.le_of_ble_eq_true rfl | omega | (simp only [lnS] <;> omega) | (simp <;> omega))) (by first | (simp only [packA_t, packA_f, iE, bE, setAt, cellsA, Value.cells, map_vc, map_vn, Nat.reduceAdd, qS] <;> rfl) | rfl)) ⟨_, rfl, (u2 rfl hb_13)⟩ rfl ?_
                        refine al_ro' (ro_call (evL_cons up_h (evL_cons ev_c (evL_cons ev_c evL_nil))) rfl (bWithin_ok _ _ _) k29_hcf10) ⟨_, rfl, (up_m rfl (u2 rfl hb_13))⟩ rfl ?_
                        refine al_ro' (ro_not up_h) ⟨_, rfl, (u4 rfl hb_13)⟩ rfl ?_
                        refine al_ro' (ro_pickF (up_m rfl (u4 rfl hb_13)) up_h) trivial rfl ?_
                        refine al_ro' (ro_move up_h) trivial rfl ?_
                        refine al_case up_h (fun hb_15 hq_15 => ?_) (fun hb_15 hq_15 => ?_)
                        · (first | replace hq_15 := bnt hq_15 | replace hq_15 := bnf hq_15 | replace hq_15 := bt hq_15 | replace hq_15 := bf hq_15 | replace hq_15 := bt' hq_15 | replace hq_15 := bf' hq_15 | skip)
                          first
                          | (cases hq_15; done) | (exfalso; omega)
                          | (
                             refine al_skip' ⟨_, rfl, .inl hb_15⟩ rfl ?_
                             refine al_skip' ⟨_, rfl, .inl (up_m rfl hb_15)⟩ rfl ?_
                             refine al_skip' ⟨_, rfl, .inl (u2 rfl hb_15)⟩ rfl ?_
                             refine al_skip' ⟨_, rfl, .inl (up_m rfl (u2 rfl hb_15))⟩ rfl ?_
                             refine al_ro' (ro_pickT (u4 rfl hb_15) ev_c) trivial rfl ?_
                             refine al_end (fun e_16 he_16 => ?_)
                             have s3_16 := ef 3 he_16 (up_m rfl (u4 rfl (u8 rfl (u16 rfl s3_5))))
                             have s4_16 := ef 4 he_16 (up_m rfl (u4 rfl (u8 rfl (u16 rfl s4_5))))
                             have s5_16 := ef 5 he_16 (up_m rfl (u4 rfl (u8 rfl (u16 rfl s5_5))))
                             have s53_16 := ef 53 he_16 up_h
                             clear he_16
                             refine then_n ⟨(s53_16).trans (by (refine avb ?_; simp only [decide_eq_true_eq, Bool.false_eq_true, true_iff, false_iff]; first | omega | (exact Or.inr (Or.inr (Or.inl (by assumption)))) | (exact Or.inr (Or.inr (Or.inr (Or.inl (by assumption))))) | (refine ⟨fun h => .inr (.inr (.inr (.inr (by omega)))), ?_⟩; rintro (h | h | h | h | h) <;> first | omega | (have h' : withinB e0 0 20000000000 = true := (by assumption); rw [h] at h'; cases h') | (have h' : withinB e1 0 20000000000 = true := (by assumption); rw [h] at h'; cases h')))), (s3_16).trans (s3_5).symm, (s4_16).trans (s4_5).symm, (s5_16).trans (s5_5).symm, rfl⟩)
                        · (first | replace hq_15 := bnt hq_15 | replace hq_15 := bnf hq_15 | replace hq_15 := bt hq_15 | replace hq_15 := bf hq_15 | replace hq_15 := bt' hq_15 | replace hq_15 := bf' hq_15 | skip)
                          first
                          | (cases hq_15; done) | (exfalso; omega)
                          | (
                             refine al_ro' (ro_fld_ptr k29_fl56_1 rfl (u8 rfl (u16 rfl s5_5))) ⟨_, rfl, hb_15⟩ rfl ?_
                             refine al_ro' (ro_eq (ro_ld_ptr k29_ty22 rfl mo2_3 up_h (by first | exact Nat.le_of_ble_eq_true rfl | omega | (simp only [lnS] <;> omega) | (simp <;> omega))) (by first | (simp only [packA_t, packA_f, iE, bE, setAt, cellsA, Value.cells, map_vc, map_vn, Nat.reduceAdd, qS] <;> rfl) | rfl)) ⟨_, rfl, (up_m rfl hb_15)⟩ rfl ?_
                             refine al_ro' (ro_eq (ro_len_row up_h rfl k29_sl22.1) (by first | (simp only [lnS] <;> rfl) | rfl)) ⟨_, rfl, (u2 rfl hb_15)⟩ rfl ?_
                             refine al_ro' (ro_gtr up_h ev_c) ⟨_, rfl, (up_m rfl (u2 rfl hb_15))⟩ rfl ?_
                             refine al_ro' (ro_pickF (u4 rfl hb_15) up_h) trivial rfl ?_
                             refine al_end (fun e_17 he_17 => ?_)
                             have s3_17 := ef 3 he_17 (up_m rfl (u4 rfl (u8 rfl (u16 rfl s3_5))))
                             have s4_17 := ef 4 he_17 (up_m rfl (u4 rfl (u8 rfl (u16 rfl s4_5))))
                             have s5_17 := ef 5 he_17 (up_m rfl (u4 rfl (u8 rfl (u16 rfl s5_5))))
                             have s53_17 := ef 53 he_17 up_h
                             clear he_17
                             refine then_n ⟨(s53_17).trans (by (refine avb ?_; simp only [decide_eq_true_eq, Bool.false_eq_true, true_iff, false_iff]; first | omega | (exact Or.inr (Or.inr (Or.inl (by assumption)))) | (exact Or.inr (Or.inr (Or.inr (Or.inl (by assumption))))) | (refine ⟨fun h => .inr (.inr (.inr (.inr (by omega)))), ?_⟩; rintro (h | h | h | h | h) <;> first | omega | (have h' : withinB e0 0 20000000000 = true := (by assumption); rw [h] at h'; cases h') | (have h' : withinB e1 0 20000000000 = true := (by assumption); rw [h] at h'; cases h')))), (s3_17).trans (s3_5).symm, (s4_17).trans (s4_5).symm, (s5_17).trans (s5_5).symm, rfl⟩))))
       · rintro e_8 _ ⟨s53_8, k3_8, k4_8, k5_8, rfl⟩
         have s3_8 := k3_8.trans s3_5
         have s4_8 := k4_8.trans s4_5
         have s5_8 := k5_8.trans s5_5
         refine aw_case s53_8 (fun hq_18 => ?_) (fun hq_18 => ?_)
         · (first | replace hq_18 := bnt hq_18 | replace hq_18 := bnf hq_18 | replace hq_18 := bt hq_18 | replace hq_18 := bf hq_18 | replace hq_18 := bt' hq_18 | replace hq_18 := bf' hq_18 | skip)
           first
           | (cases hq_18; done) | (exfalso; omega)
           | (
              refine aw_seq ?_
              refine aw_text (by kernel_rfl) ?_
              refine al_ro' (ro_assign ev_c) trivial rfl ?_
              refine al_end (fun e_19 he_19 => ?_)
              have s6_19 := ef 6 he_19 up_h
              clear he_19 s3_8 s4_8 s53_8 s5_8
              refine then_n ?_
              refine aw_ret ?_
              refine then_r ?_
              refine ret1 (.inr rfl) (by kernel_rfl) (resV_tmp s6_19) (.ro _ rfl) ?_
              clear s6_19 mo2_3 mo1_3 mo0_3 ml_3
              (first | rfl | (exfalso; omega) | (simp; done) | (simp [h12, hnr]; done)))
         · (first | replace hq_18 := bnt hq_18 | replace hq_18 := bnf hq_18 | replace hq_18 := bt hq_18 | replace hq_18 := bf hq_18 | replace hq_18 := bt' hq_18 | replace hq_18 := bf' hq_18 | skip)
           first
           | (cases hq_18; done) | (exfalso; omega)
           | (
              (have hsh : nm.size ≤ 30 ∧ ps.length ≤ 14 := (by omega); have hs : nm.size ≤ 1000000000 := (by omega); have hp : ps.length ≤ 1000000000 := (by omega); have h0 : firstE [(chk nm ps).2, sysE b d v] = 0 := (by omega); have hqq : ¬ (_ ∨ _ ∨ _ ∨ _ ∨ _) := (by assumption); have hw0 : withinB e0 0 20000000000 = true := Classical.byContradiction fun q => hqq (Or.inr (Or.inr (Or.inl (eq_false_of_ne_true q)))); have hw1 : withinB e1 0 20000000000 = true := Classical.byContradiction fun q => hqq (Or.inr (Or.inr (Or.inr (Or.inl (eq_false_of_ne_true q))))); simp only [withinB, Bool.and_eq_true, decide_eq_true_eq] at hw0 hw1; have he0 := hw0; have he1 := hw1; have h1 := (firstE_cons h0).1; have hx16 : xs.length ≤ 16 := (by omega); have htw := fasW_two ps b v e0 e1)
              refine aw_skip ?_
              refine then_n ?_
              refine aw_seq ?_
              refine aw_text (by kernel_rfl) ?_
              refine al_ro' (ro_fld_ptr k29_fl51_1 rfl s3_8) trivial rfl ?_
              refine al_ro' (ro_eq (ro_ld_ptr k29_ty49 rfl mo0_3 up_h (by first | exact Nat.le_of_ble_eq_true rfl | omega | (simp only [lnS] <;> omega) | (simp <;> omega))) (by first | (simp only [packA_t, packA_f, iE, bE, setAt, cellsA, Value.cells, map_vc, map_vn, Nat.reduceAdd, qS] <;> rfl) | rfl)) trivial rfl ?_
              refine al_ro' (ro_eq (ro_len_row up_h rfl k29_sl49.1) (by first | (simp only [lnS] <;> rfl) | rfl)) trivial rfl ?_
              refine al_ro' (ro_assign up_h) trivial rfl ?_
              refine al_end (fun e_20 he_20 => ?_)
              have s3_20 := ef 3 he_20 (u4 rfl s3_8)
              have s4_20 := ef 4 he_20 (u4 rfl s4_8)
              have s5_20 := ef 5 he_20 (u4 rfl s5_8)
              have s7_20 := ef 7 he_20 up_h
              clear he_20 s3_8 s4_8 s53_8 s5_8
              refine then_n ?_
              refine aw_seq ?_
              refine aw_draw 11 (by kernel_rfl) (by kernel_rfl) (by kernel_rfl) (by kernel_rfl) ?_
              refine ds_ro' (ro_eq (ro_ld_ptr k29_ty51 rfl mo0_3 s3_20 (by first | exact Nat.le_of_ble_eq_true rfl | omega | (simp only [lnS] <;> omega) | (simp <;> omega))) (by first | (simp only [packA_t, packA_f, iE, bE, setAt, cellsA, Value.cells, map_vc, map_vn, Nat.reduceAdd, qS] <;> rfl) | rfl)) trivial rfl ?_
              refine ds_ro' (ro_call (evL_cons up_h evL_nil) rfl (rCopy_ok nm ps (by omega)) k29_hcf21) trivial rfl ?_
              refine ds_ro' (ro_eq (ro_ld_ptr k29_ty53 rfl mo1_3 (u2 rfl s4_20) (by first | exact Nat.le_of_ble_eq_true rfl | omega | (simp only [lnS] <;> omega) | (simp <;> omega))) (by first | (simp only [packA_t, packA_f, iE, bE, setAt, cellsA, Value.cells, map_vc, map_vn, Nat.reduceAdd, qS] <;> rfl) | rfl)) trivial rfl ?_
              refine ds_ro' (ro_fld_ptr k29_fl56_0 rfl (up_m rfl (u2 rfl s5_20))) trivial rfl ?_
              refine ds_ro' (ro_eq (ro_ld_ptr k29_ty54 rfl mo2_3 up_h (by first | exact Nat.le_of_ble_eq_true rfl | omega | (simp only [lnS] <;> omega) | (simp <;> omega))) (by first | (simp only [packA_t, packA_f, iE, bE, setAt, cellsA, Value.cells, map_vc, map_vn, Nat.reduceAdd, qS] <;> rfl) | rfl)) trivial rfl ?_
              refine ds_ro' (ro_call (evL_cons (up_m rfl (u2 rfl up_h)) (evL_cons (u2 rfl up_h) (evL_cons up_h evL_nil))) rfl (fastest0_ok hs hp h0 he0 he1) k29_hcf20) trivial rfl ?_
              refine ds_ro' (ro_move up_h) trivial rfl ?_
              refine ds_ro' (ro_extract up_h rfl) trivial rfl ?_
              refine ds_ro' (ro_extract (up_m rfl up_h) rfl) trivial rfl ?_
              refine ds_ro' (ro_assign (up_m rfl up_h)) trivial rfl ?_
              refine ds_ro' (ro_assign (up_m rfl up_h)) trivial rfl ?_
              refine ds_nil ?_
              refine al_end (fun e_21 he_21 => ?_)
              have s3_21 := ef 3 he_21 (up_m rfl (u2 rfl (u8 rfl s3_20)))
              have s4_21 := ef 4 he_21 (up_m rfl (u2 rfl (u8 rfl s4_20)))
              have s5_21 := ef 5 he_21 (up_m rfl (u2 rfl (u8 rfl s5_20)))
              have s7_21 := ef 7 he_21 (up_m rfl (u2 rfl (u8 rfl s7_20)))
              have s8_21 := ef 8 he_21 (up_m rfl up_h)
              have s9_21 := ef 9 he_21 up_h
              clear he_21 s3_20 s4_20 s5_20 s7_20
              refine then_n ?_
              refine aw_seq ?_
              refine aw_draw 12 (by kernel_rfl) (by kernel_rfl) (by kernel_rfl) (by kernel_rfl) ?_
              refine ds_ro' (ro_eq (ro_ld_ptr k29_ty51 rfl mo0_3 s3_21 (by first | exact Nat.le_of_ble_eq_true rfl | omega | (simp only [lnS] <;> omega) | (simp <;> omega))) (by first | (simp only [packA_t, packA_f, iE, bE, setAt, cellsA, Value.cells, map_vc, map_vn, Nat.reduceAdd, qS] <;> rfl) | rfl)) trivial rfl ?_
              refine ds_ro' (ro_call (evL_cons up_h evL_nil) rfl (rCopy_ok nm ps (by omega)) k29_hcf21) trivial rfl ?_
              refine ds_ro' (ro_eq (ro_ld_ptr k29_ty53 rfl mo1_3 (u2 rfl s4_21) (by first | exact Nat.le_of_ble_eq_true rfl | omega | (simp only [lnS] <;> omega) | (simp <;> omega))) (by first | (simp only [packA_t, packA_f, iE, bE, setAt, cellsA, Value.cells, map_vc, map_vn, Nat.reduceAdd, qS] <;> rfl) | rfl)) trivial rfl ?_
              refine ds_ro' (ro_fld_ptr k29_fl56_1 rfl (up_m rfl (u2 rfl s5_21))) trivial rfl ?_
              refine ds_ro' (ro_eq (ro_ld_ptr k29_ty22 rfl mo2_3 up_h (by first | exact Nat.le_of_ble_eq_true rfl | omega | (simp only [lnS] <;> omega) | (simp <;> omega))) (by first | (simp only [packA_t, packA_f, iE, bE, setAt, cellsA, Value.cells, map_vc, map_vn, Nat.reduceAdd, qS] <;> rfl) | rfl)) trivial rfl ?_
              refine ds_ro' (ro_call (evL_cons up_h evL_nil) rfl (copyInts_ok xs (by omega)) k29_hcf23) trivial rfl ?_
              refine ds_ro' (ro_call (evL_cons (u4 rfl up_h) (evL_cons (up_m rfl (u2 rfl up_h)) (evL_cons up_h evL_nil))) rfl (checkSquares0_ok hs hp (by omega)) k29_hcf22) trivial rfl ?_
              refine ds_ro' (ro_move up_h) trivial rfl ?_
              refine ds_ro' (ro_extract up_h rfl) trivial rfl ?_
              refine ds_ro' (ro_extract (up_m rfl up_h) rfl) trivial rfl ?_
              refine ds_ro' (ro_assign (up_m rfl up_h)) trivial rfl ?_
              refine ds_ro' (ro_assign (up_m rfl up_h)) trivial rfl ?_
              refine ds_nil ?_
              refine al_end (fun e_22 he_22 => ?_)
              have s3_22 := ef 3 he_22 (u4 rfl (u8 rfl s3_21))
              have s4_22 := ef 4 he_22 (u4 rfl (u8 rfl s4_21))
              have s5_22 := ef 5 he_22 (u4 rfl (u8 rfl s5_21))
              have s7_22 := ef 7 he_22 (u4 rfl (u8 rfl s7_21))
              have s8_22 := ef 8 he_22 (u4 rfl (u8 rfl s8_21))
              have s9_22 := ef 9 he_22 (u4 rfl (u8 rfl s9_21))
              have s10_22 := ef 10 he_22 (up_m rfl up_h)
              have s11_22 := ef 11 he_22 up_h
              clear he_22 s3_21 s4_21 s5_21 s7_21 s8_21 s9_21
              refine then_n ?_
              refine aw_seq ?_
              refine aw_cut (fun e mem => (evA e (.tmp 12) = .v (.bool (decide (rivB nm ps b d v e0 e1 xs)))) ∧ (evA e (.tmp 3) = evA e_22 (.tmp 3)) ∧ (evA e (.tmp 4) = evA e_22 (.tmp 4)) ∧ (evA e (.tmp 5) = evA e_22 (.tmp 5)) ∧ (evA e (.tmp 7) = evA e_22 (.tmp 7)) ∧ (evA e (.tmp 8) = evA e_22 (.tmp 8)) ∧ (evA e (.tmp 9) = evA e_22 (.tmp 9)) ∧ (evA e (.tmp 10) = evA e_22 (.tmp 10)) ∧ m_3 = mem) ?_ ?_
              ·
                refine aw_draw 32 (by kernel_rfl) (by kernel_rfl) (by kernel_rfl) (by kernel_rfl) ?_
                refine ds_ro' (ro_move s11_22) trivial rfl ?_
                refine ds_ro' (ro_eql up_h ev_c) trivial rfl ?_
                refine ds_ro' (ro_move up_h) trivial rfl ?_
                refine ds_case up_h (fun hb_24 hq_24 => ?_) (fun hb_24 hq_24 => ?_)
                · (first | replace hq_24 := bnt hq_24 | replace hq_24 := bnf hq_24 | replace hq_24 := bt hq_24 | replace hq_24 := bf hq_24 | replace hq_24 := bt' hq_24 | replace hq_24 := bf' hq_24 | skip)
                  first
                  | (cases hq_24; done) | (exfalso; omega)
                  | (
                     refine ds_ro' (ro_fld_ptr k29_fl56_1 rfl (up_m rfl (u2 rfl s5_22))) ⟨_, rfl, hb_24⟩ rfl ?_
                     refine ds_ro' (ro_eq (ro_ld_ptr k29_ty22 rfl mo2_3 up_h (by first | exact Nat.le_of_ble_eq_true rfl | omega | (simp only [lnS] <;> omega) | (simp <;> omega))) (by first | (simp only [packA_t, packA_f, iE, bE, setAt, cellsA, Value.cells, map_vc, map_vn, Nat.reduceAdd, qS] <;> rfl) | rfl)) ⟨_, rfl, (up_m rfl hb_24)⟩ rfl ?_
                     refine ds_ro' (ro_eq (ro_len_row up_h rfl k29_sl22.1) (by first | (simp only [lnS] <;> rfl) | rfl)) ⟨_, rfl, (u2 rfl hb_24)⟩ rfl ?_
                     refine ds_ro' (ro_move (u2 rfl (u4 rfl s7_22))) ⟨_, rfl, (up_m rfl (u2 rfl hb_24))⟩ rfl ?_
                     first | (refine ds_ro' (ro_add' up_h ev_c ?_) ⟨_, rfl, (u4 rfl hb_24)⟩ rfl ?_; · (unfold In64; omega)) | refine ds_ro' (ro_add up_h ev_c) ⟨_, rfl, (u4 rfl hb_24)⟩ rfl ?_
                     refine ds_ro' (ro_eql (u2 rfl up_h) up_h) ⟨_, rfl, (up_m rfl (u4 rfl hb_24))⟩ rfl ?_
                     refine ds_ro' (ro_pickT (u2 rfl (u4 rfl hb_24)) up_h) trivial rfl ?_
                     refine ds_ro' (ro_move up_h) trivial rfl ?_
                     refine ds_case up_h (fun hb_25 hq_25 => ?_) (fun hb_25 hq_25 => ?_)
                     · (first | replace hq_25 := bnt hq_25 | replace hq_25 := bnf hq_25 | replace hq_25 := bt hq_25 | replace hq_25 := bf hq_25 | replace hq_25 := bt' hq_25 | replace hq_25 := bf' hq_25 | skip)
                       first
                       | (cases hq_25; done) | (exfalso; omega)
                       | (
                          refine ds_ro' (ro_fld_ptr k29_fl56_1 rfl (up_m rfl (u2 rfl (u8 rfl s5_22)))) ⟨_, rfl, hb_25⟩ rfl ?_
                          refine ds_ro' (ro_eq (ro_ld_ptr k29_ty22 rfl mo2_3 up_h (by first | exact Nat.le_of_ble_eq_true rfl | omega | (simp only [lnS] <;> omega) | (simp <;> omega))) (by first | (simp only [packA_t, packA_f, iE, bE, setAt, cellsA, Value.cells, map_vc, map_vn, Nat.reduceAdd, qS] <;> rfl) | rfl)) ⟨_, rfl, (up_m rfl hb_25)⟩ rfl ?_
                          refine ds_ro' (ro_eq (ro_ix k29_sl22 up_h ev_c (by first | decide | omega | (simp <;> omega)) (by first | (refine idx_map ?_; first | omega | (simp only [lnS]; omega)) | (refine idx_mapI ?_; first | omega | (simp only [lnS]; omega)) | (refine idx_mapN ?_; first | omega | (simp only [lnS]; omega)) | rfl)) (by first | (simp only [packA_t, packA_f, iE, bE, setAt, cellsA, Value.cells, map_vc, map_vn, Nat.reduceAdd, qS] <;> rfl) | rfl)) ⟨_, rfl, (u2 rfl hb_25)⟩ rfl ?_
                          refine ds_ro' (ro_eq (ro_ld_ref k29_ty3 rfl up_h (by first | exact Nat.le_of_ble_eq_true rfl | omega | (simp only [lnS] <;> omega) | (simp <;> omega))) (by first | (simp only [packA_t, packA_f, iE, bE, setAt, cellsA, Value.cells, map_vc, map_vn, Nat.reduceAdd, qS] <;> rfl) | rfl)) ⟨_, rfl, (up_m rfl (u2 rfl hb_25))⟩ rfl ?_
                          refine ds_ro' (ro_fld_ptr k29_fl56_0 rfl (up_m rfl (u2 rfl (u4 rfl (u8 rfl s5_22))))) ⟨_, rfl, (u4 rfl hb_25)⟩ rfl ?_
                          refine ds_ro' (ro_ixa k29_ar54 up_h ev_c rfl) ⟨_, rfl, (up_m rfl (u4 rfl hb_25))⟩ rfl ?_
                          refine ds_ro' (ro_eq (ro_ld_ptr k29_ty3 rfl mo2_3 up_h (by first | exact Nat.le_of_ble_eq_true rfl | omega | (simp only [lnS] <;> omega) | (simp <;> omega))) (by first | (simp only [packA_t, packA_f, iE, bE, setAt, cellsA, Value.cells, map_vc, map_vn, Nat.reduceAdd, qS] <;> rfl) | rfl)) ⟨_, rfl, (u2 rfl (u4 rfl hb_25))⟩ rfl ?_
                          refine ds_ro' (ro_eql (up_m rfl (u2 rfl up_h)) up_h) ⟨_, rfl, (up_m rfl (u2 rfl (u4 rfl hb_25)))⟩ rfl ?_
                          refine ds_ro' (ro_pickT (u8 rfl hb_25) up_h) trivial rfl ?_
                          refine ds_ro' (ro_move up_h) trivial rfl ?_
                          refine ds_case up_h (fun hb_26 hq_26 => ?_) (fun hb_26 hq_26 => ?_)
                          · (first | replace hq_26 := bnt hq_26 | replace hq_26 := bnf hq_26 | replace hq_26 := bt hq_26 | replace hq_26 := bf hq_26 | replace hq_26 := bt' hq_26 | replace hq_26 := bf' hq_26 | skip)
                            first
                            | (cases hq_26; done) | (exfalso; omega)
                            | (
                               refine ds_ro' (ro_fld_ptr k29_fl56_1 rfl (up_m rfl (u4 rfl (u16 rfl s5_22)))) ⟨_, rfl, hb_26⟩ rfl ?_
                               refine ds_ro' (ro_eq (ro_ld_ptr k29_ty22 rfl mo2_3 up_h (by first | exact Nat.le_of_ble_eq_true rfl | omega | (simp only [lnS] <;> omega) | (simp <;> omega))) (by first | (simp only [packA_t, packA_f, iE, bE, setAt, cellsA, Value.cells, map_vc, map_vn, Nat.reduceAdd, qS] <;> rfl) | rfl)) ⟨_, rfl, (up_m rfl hb_26)⟩ rfl ?_
                               refine ds_ro' (ro_move (up_m rfl (u2 rfl (u4 rfl (u16 rfl s7_22))))) ⟨_, rfl, (u2 rfl hb_26)⟩ rfl ?_
                               refine ds_ro' (ro_eq (ro_ix k29_sl22 (up_m rfl up_h) up_h (by first | decide | omega | (simp <;> omega)) (by first | (refine idx_map ?_; first | omega | (simp only [lnS]; omega)) | (refine idx_mapI ?_; first | omega | (simp only [lnS]; omega)) | (refine idx_mapN ?_; first | omega | (simp only [lnS]; omega)) | rfl)) (by first | (simp only [packA_t, packA_f, iE, bE, setAt, cellsA, Value.cells, map_vc, map_vn, Nat.reduceAdd, qS] <;> rfl) | rfl)) ⟨_, rfl, (up_m rfl (u2 rfl hb_26))⟩ rfl ?_
                               refine ds_ro' (ro_eq (ro_ld_ref k29_ty3 rfl up_h (by first | exact Nat.le_of_ble_eq_true rfl | omega | (simp only [lnS] <;> omega) | (simp <;> omega))) (by first | (simp only [packA_t, packA_f, iE, bE, setAt, cellsA, Value.cells, map_vc, map_vn, Nat.reduceAdd, qS] <;> rfl) | rfl)) ⟨_, rfl, (u4 rfl hb_26)⟩ rfl ?_
                               refine ds_ro' (ro_fld_ptr k29_fl56_0 rfl (u2 rfl (u8 rfl (u16 rfl s5_22)))) ⟨_, rfl, (up_m rfl (u4 rfl hb_26))⟩ rfl ?_
                               refine ds_ro' (ro_ixa k29_ar54 up_h ev_c rfl) ⟨_, rfl, (u2 rfl (u4 rfl hb_26))⟩ rfl ?_
                               refine ds_ro' (ro_eq (ro_ld_ptr k29_ty3 rfl mo2_3 up_h (by first | exact Nat.le_of_ble_eq_true rfl | omega | (simp only [lnS] <;> omega) | (simp <;> omega))) (by first | (simp only [packA_t, packA_f, iE, bE, setAt, cellsA, Value.cells, map_vc, map_vn, Nat.reduceAdd, qS] <;> rfl) | rfl)) ⟨_, rfl, (up_m rfl (u2 rfl (u4 rfl hb_26)))⟩ rfl ?_
                               refine ds_ro' (ro_leq (up_m rfl (u2 rfl up_h)) up_h) ⟨_, rfl, (u8 rfl hb_26)⟩ rfl ?_
                               refine ds_ro' (ro_pickT (up_m rfl (u8 rfl hb_26)) up_h) trivial rfl ?_
                               refine ds_ro' (ro_assign up_h) trivial rfl ?_
                               refine ds_nil ?_
                               refine al_end (fun e_27 he_27 => ?_)
                               have s3_27 := ef 3 he_27 (u16 rfl (u16 rfl s3_22))
                               have s4_27 := ef 4 he_27 (u16 rfl (u16 rfl s4_22))
                               have s5_27 := ef 5 he_27 (u16 rfl (u16 rfl s5_22))
                               have s7_27 := ef 7 he_27 (u16 rfl (u16 rfl s7_22))
                               have s8_27 := ef 8 he_27 (u16 rfl (u16 rfl s8_22))
                               have s9_27 := ef 9 he_27 (u16 rfl (u16 rfl s9_22))
                               have s10_27 := ef 10 he_27 (u16 rfl (u16 rfl s10_22))
                               have s12_27 := ef 12 he_27 up_h
                               clear he_27
                               refine then_n ⟨(s12_27).trans (by (refine avb ?_; simp only [decide_eq_true_eq, Bool.false_eq_true, true_iff, false_iff]; unfold rivB; omega)), (s3_27).trans (s3_22).symm, (s4_27).trans (s4_22).symm, (s5_27).trans (s5_22).symm, (s7_27).trans (s7_22).symm, (s8_27).trans (s8_22).symm, (s9_27).trans (s9_22).symm, (s10_27).trans (s10_22).symm, rfl⟩)
                          · (first | replace hq_26 := bnt hq_26 | replace hq_26 := bnf hq_26 | replace hq_26 := bt hq_26 | replace hq_26 := bf hq_26 | replace hq_26 := bt' hq_26 | replace hq_26 := bf' hq_26 | skip)
                            first
                            | (cases hq_26; done) | (exfalso; omega)
                            | (
                               refine ds_skip' ⟨_, rfl, .inl hb_26⟩ rfl ?_
                               refine ds_skip' ⟨_, rfl, .inl (up_m rfl hb_26)⟩ rfl ?_
                               refine ds_skip' ⟨_, rfl, .inl (u2 rfl hb_26)⟩ rfl ?_
                               refine ds_skip' ⟨_, rfl, .inl (up_m rfl (u2 rfl hb_26))⟩ rfl ?_
                               refine ds_skip' ⟨_, rfl, .inl (u4 rfl hb_26)⟩ rfl ?_
                               refine ds_skip' ⟨_, rfl, .inl (up_m rfl (u4 rfl hb_26))⟩ rfl ?_
                               refine ds_skip' ⟨_, rfl, .inl (u2 rfl (u4 rfl hb_26))⟩ rfl ?_
                               refine ds_skip' ⟨_, rfl, .inl (up_m rfl (u2 rfl (u4 rfl hb_26)))⟩ rfl ?_
                               refine ds_skip' ⟨_, rfl, .inl (u8 rfl hb_26)⟩ rfl ?_
                               refine ds_ro' (ro_pickF (up_m rfl (u8 rfl hb_26)) ev_c) trivial rfl ?_
                               refine ds_ro' (ro_assign up_h) trivial rfl ?_
                               refine ds_nil ?_
                               refine al_end (fun e_28 he_28 => ?_)
                               have s3_28 := ef 3 he_28 (u16 rfl (u16 rfl s3_22))
                               have s4_28 := ef 4 he_28 (u16 rfl (u16 rfl s4_22))
                               have s5_28 := ef 5 he_28 (u16 rfl (u16 rfl s5_22))
                               have s7_28 := ef 7 he_28 (u16 rfl (u16 rfl s7_22))
                               have s8_28 := ef 8 he_28 (u16 rfl (u16 rfl s8_22))
                               have s9_28 := ef 9 he_28 (u16 rfl (u16 rfl s9_22))
                               have s10_28 := ef 10 he_28 (u16 rfl (u16 rfl s10_22))
                               have s12_28 := ef 12 he_28 up_h
                               clear he_28
                               refine then_n ⟨(s12_28).trans (by (refine avb ?_; simp only [decide_eq_true_eq, Bool.false_eq_true, true_iff, false_iff]; unfold rivB; omega)), (s3_28).trans (s3_22).symm, (s4_28).trans (s4_22).symm, (s5_28).trans (s5_22).symm, (s7_28).trans (s7_22).symm, (s8_28).trans (s8_22).symm, (s9_28).trans (s9_22).symm, (s10_28).trans (s10_22).symm, rfl⟩))
                     · (first | replace hq_25 := bnt hq_25 | replace hq_25 := bnf hq_25 | replace hq_25 := bt hq_25 | replace hq_25 := bf hq_25 | replace hq_25 := bt' hq_25 | replace hq_25 := bf' hq_25 | skip)
                       first
                       | (cases hq_25; done) | (exfalso; omega)
                       | (
                          refine ds_skip' ⟨_, rfl, .inl hb_25⟩ rfl ?_
                          refine ds_skip' ⟨_, rfl, .inl (up_m rfl hb_25)⟩ rfl ?_
                          refine ds_skip' ⟨_, rfl, .inl (u2 rfl hb_25)⟩ rfl ?_
                          refine ds_skip' ⟨_, rfl, .inl (up_m rfl (u2 rfl hb_25))⟩ rfl ?_
                          refine ds_skip' ⟨_, rfl, .inl (u4 rfl hb_25)⟩ rfl ?_
                          refine ds_skip' ⟨_, rfl, .inl (up_m rfl (u4 rfl hb_25))⟩ rfl ?_
                          refine ds_skip' ⟨_, rfl, .inl (u2 rfl (u4 rfl hb_25))⟩ rfl ?_
                          refine ds_skip' ⟨_, rfl, .inl (up_m rfl (u2 rfl (u4 rfl hb_25)))⟩ rfl ?_
                          refine ds_ro' (ro_pickF (u8 rfl hb_25) ev_c) trivial rfl ?_
                          refine ds_ro' (ro_move up_h) trivial rfl ?_
                          refine ds_skip' ⟨_, rfl, .inl up_h⟩ rfl ?_
                          refine ds_skip' ⟨_, rfl, .inl (up_m rfl up_h)⟩ rfl ?_
                          refine ds_skip' ⟨_, rfl, .inl (u2 rfl up_h)⟩ rfl ?_
                          refine ds_skip' ⟨_, rfl, .inl (up_m rfl (u2 rfl up_h))⟩ rfl ?_
                          refine ds_skip' ⟨_, rfl, .inl (u4 rfl up_h)⟩ rfl ?_
                          refine ds_skip' ⟨_, rfl, .inl (up_m rfl (u4 rfl up_h))⟩ rfl ?_
                          refine ds_skip' ⟨_, rfl, .inl (u2 rfl (u4 rfl up_h))⟩ rfl ?_
                          refine ds_skip' ⟨_, rfl, .inl (up_m rfl (u2 rfl (u4 rfl up_h)))⟩ rfl ?_
                          refine ds_skip' ⟨_, rfl, .inl (u8 rfl up_h)⟩ rfl ?_
                          refine ds_ro' (ro_pickF (up_m rfl (u8 rfl up_h)) ev_c) trivial rfl ?_
                          refine ds_ro' (ro_assign up_h) trivial rfl ?_
                          refine ds_nil ?_
                          refine al_end (fun e_29 he_29 => ?_)
                          have s3_29 := ef 3 he_29 (u16 rfl (u16 rfl s3_22))
                          have s4_29 := ef 4 he_29 (u16 rfl (u16 rfl s4_22))
                          have s5_29 := ef 5 he_29 (u16 rfl (u16 rfl s5_22))
                          have s7_29 := ef 7 he_29 (u16 rfl (u16 rfl s7_22))
                          have s8_29 := ef 8 he_29 (u16 rfl (u16 rfl s8_22))
                          have s9_29 := ef 9 he_29 (u16 rfl (u16 rfl s9_22))
                          have s10_29 := ef 10 he_29 (u16 rfl (u16 rfl s10_22))
                          have s12_29 := ef 12 he_29 up_h
                          clear he_29
                          refine then_n ⟨(s12_29).trans (by (refine avb ?_; simp only [decide_eq_true_eq, Bool.false_eq_true, true_iff, false_iff]; unfold rivB; omega)), (s3_29).trans (s3_22).symm, (s4_29).trans (s4_22).symm, (s5_29).trans (s5_22).symm, (s7_29).trans (s7_22).symm, (s8_29).trans (s8_22).symm, (s9_29).trans (s9_22).symm, (s10_29).trans (s10_22).symm, rfl⟩))
                · (first | replace hq_24 := bnt hq_24 | replace hq_24 := bnf hq_24 | replace hq_24 := bt hq_24 | replace hq_24 := bf hq_24 | replace hq_24 := bt' hq_24 | replace hq_24 := bf' hq_24 | skip)
                  first
                  | (cases hq_24; done) | (exfalso; omega)
                  | (
                     refine ds_skip' ⟨_, rfl, .inl hb_24⟩ rfl ?_
                     refine ds_skip' ⟨_, rfl, .inl (up_m rfl hb_24)⟩ rfl ?_
                     refine ds_skip' ⟨_, rfl, .inl (u2 rfl hb_24)⟩ rfl ?_
                     refine ds_skip' ⟨_, rfl, .inl (up_m rfl (u2 rfl hb_24))⟩ rfl ?_
                     refine ds_skip' ⟨_, rfl, .inl (u4 rfl hb_24)⟩ rfl ?_
                     refine ds_skip' ⟨_, rfl, .inl (up_m rfl (u4 rfl hb_24))⟩ rfl ?_
                     refine ds_ro' (ro_pickF (u2 rfl (u4 rfl hb_24)) ev_c) trivial rfl ?_
                     refine ds_ro' (ro_move up_h) trivial rfl ?_
                     refine ds_skip' ⟨_, rfl, .inl up_h⟩ rfl ?_
                     refine ds_skip' ⟨_, rfl, .inl (up_m rfl up_h)⟩ rfl ?_
                     refine ds_skip' ⟨_, rfl, .inl (u2 rfl up_h)⟩ rfl ?_
                     refine ds_skip' ⟨_, rfl, .inl (up_m rfl (u2 rfl up_h))⟩ rfl ?_
                     refine ds_skip' ⟨_, rfl, .inl (u4 rfl up_h)⟩ rfl ?_
                     refine ds_skip' ⟨_, rfl, .inl (up_m rfl (u4 rfl up_h))⟩ rfl ?_
                     refine ds_skip' ⟨_, rfl, .inl (u2 rfl (u4 rfl up_h))⟩ rfl ?_
                     refine ds_skip' ⟨_, rfl, .inl (up_m rfl (u2 rfl (u4 rfl up_h)))⟩ rfl ?_
                     refine ds_ro' (ro_pickF (u8 rfl up_h) ev_c) trivial rfl ?_
                     refine ds_ro' (ro_move up_h) trivial rfl ?_
                     refine ds_skip' ⟨_, rfl, .inl up_h⟩ rfl ?_
                     refine ds_skip' ⟨_, rfl, .inl (up_m rfl up_h)⟩ rfl ?_
                     refine ds_skip' ⟨_, rfl, .inl (u2 rfl up_h)⟩ rfl ?_
                     refine ds_skip' ⟨_, rfl, .inl (up_m rfl (u2 rfl up_h))⟩ rfl ?_
                     refine ds_skip' ⟨_, rfl, .inl (u4 rfl up_h)⟩ rfl ?_
                     refine ds_skip' ⟨_, rfl, .inl (up_m rfl (u4 rfl up_h))⟩ rfl ?_
                     refine ds_skip' ⟨_, rfl, .inl (u2 rfl (u4 rfl up_h))⟩ rfl ?_
                     refine ds_skip' ⟨_, rfl, .inl (up_m rfl (u2 rfl (u4 rfl up_h)))⟩ rfl ?_
                     refine ds_skip' ⟨_, rfl, .inl (u8 rfl up_h)⟩ rfl ?_
                     refine ds_ro' (ro_pickF (up_m rfl (u8 rfl up_h)) ev_c) trivial rfl ?_
                     refine ds_ro' (ro_assign up_h) trivial rfl ?_
                     refine ds_nil ?_
                     refine al_end (fun e_30 he_30 => ?_)
                     have s3_30 := ef 3 he_30 (u16 rfl (u16 rfl s3_22))
                     have s4_30 := ef 4 he_30 (u16 rfl (u16 rfl s4_22))
                     have s5_30 := ef 5 he_30 (u16 rfl (u16 rfl s5_22))
                     have s7_30 := ef 7 he_30 (u16 rfl (u16 rfl s7_22))
                     have s8_30 := ef 8 he_30 (u16 rfl (u16 rfl s8_22))
                     have s9_30 := ef 9 he_30 (u16 rfl (u16 rfl s9_22))
                     have s10_30 := ef 10 he_30 (u16 rfl (u16 rfl s10_22))
                     have s12_30 := ef 12 he_30 up_h
                     clear he_30
                     refine then_n ⟨(s12_30).trans (by (refine avb ?_; simp only [decide_eq_true_eq, Bool.false_eq_true, true_iff, false_iff]; unfold rivB; omega)), (s3_30).trans (s3_22).symm, (s4_30).trans (s4_22).symm, (s5_30).trans (s5_22).symm, (s7_30).trans (s7_22).symm, (s8_30).trans (s8_22).symm, (s9_30).trans (s9_22).symm, (s10_30).trans (s10_22).symm, rfl⟩)
              · rintro e_23 _ ⟨s12_23, k3_23, k4_23, k5_23, k7_23, k8_23, k9_23, k10_23, rfl⟩
                have s3_23 := k3_23.trans s3_22
                have s4_23 := k4_23.trans s4_22
                have s5_23 := k5_23.trans s5_22
                have s7_23 := k7_23.trans s7_22
                have s8_23 := k8_23.trans s8_22
                have s9_23 := k9_23.trans s9_22
                have s10_23 := k10_23.trans s10_22
                refine aw_seq ?_
                refine aw_seq ?_
                refine aw_text (by kernel_rfl) ?_
                refine al_ro' (ro_move s9_23) trivial rfl ?_
                refine al_ro' (ro_neq up_h ev_c) trivial rfl ?_
                refine al_end (fun e_31 he_31 => ?_)
                have s3_31 := ef 3 he_31 (u2 rfl s3_23)
                have s4_31 := ef 4 he_31 (u2 rfl s4_23)
                have s5_31 := ef 5 he_31 (u2 rfl s5_23)
                have s7_31 := ef 7 he_31 (u2 rfl s7_23)
                have s8_31 := ef 8 he_31 (u2 rfl s8_23)
                have s9_31 := ef 9 he_31 (u2 rfl s9_23)
                have s10_31 := ef 10 he_31 (u2 rfl s10_23)
                have s12_31 := ef 12 he_31 (u2 rfl s12_23)
                have s108_31 := ef 108 he_31 up_h
                clear he_31 s10_23 s12_23 s3_23 s4_23 s5_23 s7_23 s8_23 s9_23
                refine then_n ?_
                refine aw_case s108_31 (fun hq_32 => ?_) (fun hq_32 => ?_)
                · (first | replace hq_32 := bnt hq_32 | replace hq_32 := bnf hq_32 | replace hq_32 := bt hq_32 | replace hq_32 := bf hq_32 | replace hq_32 := bt' hq_32 | replace hq_32 := bf' hq_32 | skip)
                  first
                  | (cases hq_32; done) | (exfalso; omega)
                  | (
                     (have h12 : (fasW ps b v e0 e1).2 = 12 := (by omega); have hnr : ¬ rivB nm ps b d v e0 e1 xs := fun q => absurd (fast_of_rival (riv_rival q).1).1 (by omega))
                     refine aw_seq ?_
                     refine aw_text (by kernel_rfl) ?_
                     refine al_ro' (ro_move s9_31) trivial rfl ?_
                     refine al_ro' (ro_eql up_h ev_c) trivial rfl ?_
                     refine al_ro' (ro_move up_h) trivial rfl ?_
                     refine al_case up_h (fun hb_33 hq_33 => ?_) (fun hb_33 hq_33 => ?_)
                     · (first | replace hq_33 := bnt hq_33 | replace hq_33 := bnf hq_33 | replace hq_33 := bt hq_33 | replace hq_33 := bf hq_33 | replace hq_33 := bt' hq_33 | replace hq_33 := bf' hq_33 | skip)
                       first
                       | (cases hq_33; done) | (exfalso; omega)
                       | (
                          refine al_ro' (ro_move (up_m rfl (u2 rfl s12_31))) ⟨_, rfl, hb_33⟩ rfl ?_
                          refine al_ro' (ro_not up_h) ⟨_, rfl, (up_m rfl hb_33)⟩ rfl ?_
                          refine al_ro' (ro_pickT (u2 rfl hb_33) up_h) trivial rfl ?_
                          refine al_ro' (ro_assign up_h) trivial rfl ?_
                          refine al_end (fun e_34 he_34 => ?_)
                          have s6_34 := ef 6 he_34 up_h
                          clear he_34 hb_33 s108_31 s10_31 s12_31 s3_31 s4_31 s5_31 s7_31 s8_31 s9_31
                          refine then_n ?_
                          refine aw_ret ?_
                          refine then_r ?_
                          refine ret1 (.inr rfl) (by kernel_rfl) (resV_tmp s6_34) (.ro _ rfl) ?_
                          clear s6_34 mo2_3 mo1_3 mo0_3 ml_3
                          (first | rfl | (exfalso; omega) | (simp; done) | (simp [h12, hnr]; done)))
                     · (first | replace hq_33 := bnt hq_33 | replace hq_33 := bnf hq_33 | replace hq_33 := bt hq_33 | replace hq_33 := bf hq_33 | replace hq_33 := bt' hq_33 | replace hq_33 := bf' hq_33 | skip)
                       first
                       | (cases hq_33; done) | (exfalso; omega)
                       | (
                          refine al_skip' ⟨_, rfl, .inl hb_33⟩ rfl ?_
                          refine al_skip' ⟨_, rfl, .inl (up_m rfl hb_33)⟩ rfl ?_
                          refine al_ro' (ro_pickF (u2 rfl hb_33) ev_c) trivial rfl ?_
                          refine al_ro' (ro_assign up_h) trivial rfl ?_
                          refine al_end (fun e_35 he_35 => ?_)
                          have s6_35 := ef 6 he_35 up_h
                          clear he_35 hb_33 s108_31 s10_31 s12_31 s3_31 s4_31 s5_31 s7_31 s8_31 s9_31
                          refine then_n ?_
                          refine aw_ret ?_
                          refine then_r ?_
                          refine ret1 (.inr rfl) (by kernel_rfl) (resV_tmp s6_35) (.ro _ rfl) ?_
                          clear s6_35 mo2_3 mo1_3 mo0_3 ml_3
                          (first | rfl | (exfalso; omega) | (simp; done) | (simp [h12, hnr]; done))))
                · (first | replace hq_32 := bnt hq_32 | replace hq_32 := bnf hq_32 | replace hq_32 := bt hq_32 | replace hq_32 := bf hq_32 | replace hq_32 := bt' hq_32 | replace hq_32 := bf' hq_32 | skip)
                  first
                  | (cases hq_32; done) | (exfalso; omega)
                  | (
                     (have hz : (fasW ps b v e0 e1).2 = 0 := (by omega); have hA := fast_all h0 he0 hz; have hA1 := hA.1.1; have hA2 := hA.1.2.2.2.1; have hA3 := hA.1.2.2.2.2; have hG := fast_of_rival (rival_greater hA.1 (e1' := min 20000000000 (e1 + more % 100000)) (by omega)); have hG1 := hG.1; have hG2 := (fast_all (e1 := min 20000000000 (e1 + more % 100000)) h0 he0 hG.1).1.1; have hAs := hA.2.1)
                     refine aw_skip ?_
                     refine then_n ?_
                     refine aw_seq ?_
                     refine aw_draw 11 (by kernel_rfl) (by kernel_rfl) (by kernel_rfl) (by kernel_rfl) ?_
                     refine ds_ro' (ro_eq (ro_ld_ptr k29_ty51 rfl mo0_3 s3_31 (by first | exact Nat.le_of_ble_eq_true rfl | omega | (simp only [lnS] <;> omega) | (simp <;> omega))) (by first | (simp only [packA_t, packA_f, iE, bE, setAt, cellsA, Value.cells, map_vc, map_vn, Nat.reduceAdd, qS] <;> rfl) | rfl)) trivial rfl ?_
                     refine ds_ro' (ro_call (evL_cons up_h evL_nil) rfl (rCopy_ok nm ps (by omega)) k29_hcf21) trivial rfl ?_
                     refine ds_ro' (ro_eq (ro_ld_ptr k29_ty53 rfl mo1_3 (u2 rfl s4_31) (by first | exact Nat.le_of_ble_eq_true rfl | omega | (simp only [lnS] <;> omega) | (simp <;> omega))) (by first | (simp only [packA_t, packA_f, iE, bE, setAt, cellsA, Value.cells, map_vc, map_vn, Nat.reduceAdd, qS] <;> rfl) | rfl)) trivial rfl ?_
                     refine ds_ro' (ro_move (up_m rfl (u2 rfl s8_31))) trivial rfl ?_
                     refine ds_ro' (ro_call (evL_cons up_h evL_nil) rfl (copyInts_ok (fasW ps b v e0 e1).1 (by omega)) k29_hcf23) trivial rfl ?_
                     refine ds_ro' (ro_call (evL_cons (up_m rfl (u2 rfl up_h)) (evL_cons (u2 rfl up_h) (evL_cons up_h evL_nil))) rfl (checkSquares1_ok hs hp (by omega) hA.2.2) k29_hcf22) trivial rfl ?_
                     refine ds_ro' (ro_move up_h) trivial rfl ?_
                     refine ds_ro' (ro_extract up_h rfl) trivial rfl ?_
                     refine ds_ro' (ro_extract (up_m rfl up_h) rfl) trivial rfl ?_
                     refine ds_ro' (ro_assign (up_m rfl up_h)) trivial rfl ?_
                     refine ds_ro' (ro_assign (up_m rfl up_h)) trivial rfl ?_
                     refine ds_nil ?_
                     refine al_end (fun e_36 he_36 => ?_)
                     have s3_36 := ef 3 he_36 (up_m rfl (u2 rfl (u8 rfl s3_31)))
                     have s4_36 := ef 4 he_36 (up_m rfl (u2 rfl (u8 rfl s4_31)))
                     have s5_36 := ef 5 he_36 (up_m rfl (u2 rfl (u8 rfl s5_31)))
                     have s7_36 := ef 7 he_36 (up_m rfl (u2 rfl (u8 rfl s7_31)))
                     have s8_36 := ef 8 he_36 (up_m rfl (u2 rfl (u8 rfl s8_31)))
                     have s10_36 := ef 10 he_36 (up_m rfl (u2 rfl (u8 rfl s10_31)))
                     have s12_36 := ef 12 he_36 (up_m rfl (u2 rfl (u8 rfl s12_31)))
                     have s13_36 := ef 13 he_36 (up_m rfl up_h)
                     have s14_36 := ef 14 he_36 up_h
                     clear he_36 s108_31 s10_31 s12_31 s3_31 s4_31 s5_31 s7_31 s8_31 s9_31
                     refine then_n ?_
                     refine aw_seq ?_
                     refine aw_seq ?_
                     refine aw_cut (fun e mem => (evA e (.tmp 161) = .v (.bool false)) ∧ (evA e (.tmp 3) = evA e_36 (.tmp 3)) ∧ (evA e (.tmp 4) = evA e_36 (.tmp 4)) ∧ (evA e (.tmp 5) = evA e_36 (.tmp 5)) ∧ (evA e (.tmp 7) = evA e_36 (.tmp 7)) ∧ (evA e (.tmp 8) = evA e_36 (.tmp 8)) ∧ (evA e (.tmp 10) = evA e_36 (.tmp 10)) ∧ (evA e (.tmp 12) = evA e_36 (.tmp 12)) ∧ m_3 = mem) ?_ ?_
                     ·
                       refine aw_draw 38 (by kernel_rfl) (by kernel_rfl) (by kernel_rfl) (by kernel_rfl) ?_
                       refine ds_ro' (ro_move s14_36) trivial rfl ?_
                       refine ds_ro' (ro_neq up_h ev_c) trivial rfl ?_
                       refine ds_ro' (ro_move up_h) trivial rfl ?_
                       refine ds_case up_h (fun hb_38 hq_38 => ?_) (fun hb_38 hq_38 => ?_)
                       · (first | replace hq_38 := bnt hq_38 | replace hq_38 := bnf hq_38 | replace hq_38 := bt hq_38 | replace hq_38 := bf hq_38 | replace hq_38 := bt' hq_38 | replace hq_38 := bf' hq_38 | skip)
                         first
                         | (cases hq_38; done) | (exfalso; omega)
                         | (
                            refine ds_skip' ⟨_, rfl, .inl hb_38⟩ rfl ?_
                            refine ds_skip' ⟨_, rfl, .inl (up_m rfl hb_38)⟩ rfl ?_
                            refine ds_ro' (ro_pickT (u2 rfl hb_38) ev_c) trivial rfl ?_
                            refine ds_ro' (ro_move up_h) trivial rfl ?_
                            refine ds_skip' ⟨_, rfl, .inl up_h⟩ rfl ?_
                            refine ds_skip' ⟨_, rfl, .inl (up_m rfl up_h)⟩ rfl ?_
                            refine ds_skip' ⟨_, rfl, .inl (u2 rfl up_h)⟩ rfl ?_
                            refine ds_skip' ⟨_, rfl, .inl (up_m rfl (u2 rfl up_h))⟩ rfl ?_
                            refine ds_skip' ⟨_, rfl, .inl (u4 rfl up_h)⟩ rfl ?_
                            refine ds_ro' (ro_pickT (up_m rfl (u4 rfl up_h)) ev_c) trivial rfl ?_
                            refine ds_ro' (ro_move up_h) trivial rfl ?_
                            refine ds_skip' ⟨_, rfl, .inl up_h⟩ rfl ?_
                            refine ds_skip' ⟨_, rfl, .inl (up_m rfl up_h)⟩ rfl ?_
                            refine ds_skip' ⟨_, rfl, .inl (u2 rfl up_h)⟩ rfl ?_
                            refine ds_skip' ⟨_, rfl, .inl (up_m rfl (u2 rfl up_h))⟩ rfl ?_
                            refine ds_skip' ⟨_, rfl, .inl (u4 rfl up_h)⟩ rfl ?_
                            refine ds_skip' ⟨_, rfl, .inl (up_m rfl (u4 rfl up_h))⟩ rfl ?_
                            refine ds_skip' ⟨_, rfl, .inl (u2 rfl (u4 rfl up_h))⟩ rfl ?_
                            refine ds_ro' (ro_pickT (up_m rfl (u2 rfl (u4 rfl up_h))) ev_c) trivial rfl ?_
                            refine ds_ro' (ro_move up_h) trivial rfl ?_
                            refine ds_skip' ⟨_, rfl, .inl up_h⟩ rfl ?_
                            refine ds_skip' ⟨_, rfl, .inl (up_m rfl up_h)⟩ rfl ?_
                            refine ds_skip' ⟨_, rfl, .inl (u2 rfl up_h)⟩ rfl ?_
                            refine ds_skip' ⟨_, rfl, .inl (up_m rfl (u2 rfl up_h))⟩ rfl ?_
                            refine ds_skip' ⟨_, rfl, .inl (u4 rfl up_h)⟩ rfl ?_
                            refine ds_skip' ⟨_, rfl, .inl (up_m rfl (u4 rfl up_h))⟩ rfl ?_
                            refine ds_skip' ⟨_, rfl, .inl (u2 rfl (u4 rfl up_h))⟩ rfl ?_
                            refine ds_skip' ⟨_, rfl, .inl (up_m rfl (u2 rfl (u4 rfl up_h)))⟩ rfl ?_
                            refine ds_ro' (ro_pickT (u8 rfl up_h) ev_c) trivial rfl ?_
                            refine ds_ro' (ro_move up_h) trivial rfl ?_
                            refine ds_skip' ⟨_, rfl, .inl up_h⟩ rfl ?_
                            refine ds_skip' ⟨_, rfl, .inl (up_m rfl up_h)⟩ rfl ?_
                            refine ds_skip' ⟨_, rfl, .inl (u2 rfl up_h)⟩ rfl ?_
                            refine ds_skip' ⟨_, rfl, .inl (up_m rfl (u2 rfl up_h))⟩ rfl ?_
                            refine ds_ro' (ro_pickT (u4 rfl up_h) ev_c) trivial rfl ?_
                            refine ds_nil ?_
                            refine al_end (fun e_39 he_39 => ?_)
                            have s3_39 := ef 3 he_39 (u2 rfl (u4 rfl (u16 rfl (u16 rfl s3_36))))
                            have s4_39 := ef 4 he_39 (u2 rfl (u4 rfl (u16 rfl (u16 rfl s4_36))))
                            have s5_39 := ef 5 he_39 (u2 rfl (u4 rfl (u16 rfl (u16 rfl s5_36))))
                            have s7_39 := ef 7 he_39 (u2 rfl (u4 rfl (u16 rfl (u16 rfl s7_36))))
                            have s8_39 := ef 8 he_39 (u2 rfl (u4 rfl (u16 rfl (u16 rfl s8_36))))
                            have s10_39 := ef 10 he_39 (u2 rfl (u4 rfl (u16 rfl (u16 rfl s10_36))))
                            have s12_39 := ef 12 he_39 (u2 rfl (u4 rfl (u16 rfl (u16 rfl s12_36))))
                            have s161_39 := ef 161 he_39 up_h
                            clear he_39
                            refine then_n ⟨(s161_39).trans (by (refine avb ?_; simp; omega)), (s3_39).trans (s3_36).symm, (s4_39).trans (s4_36).symm, (s5_39).trans (s5_36).symm, (s7_39).trans (s7_36).symm, (s8_39).trans (s8_36).symm, (s10_39).trans (s10_36).symm, (s12_39).trans (s12_36).symm, rfl⟩)
                       · (first | replace hq_38 := bnt hq_38 | replace hq_38 := bnf hq_38 | replace hq_38 := bt hq_38 | replace hq_38 := bf hq_38 | replace hq_38 := bt' hq_38 | replace hq_38 := bf' hq_38 | skip)
                         first
                         | (cases hq_38; done) | (exfalso; omega)
                         | (
                            refine ds_ro' (ro_move (up_m rfl (u2 rfl s13_36))) ⟨_, rfl, hb_38⟩ rfl ?_
                            refine ds_ro' (ro_neq up_h ev_c) ⟨_, rfl, (up_m rfl hb_38)⟩ rfl ?_
                            refine ds_ro' (ro_pickF (u2 rfl hb_38) up_h) trivial rfl ?_
                            refine ds_ro' (ro_move up_h) trivial rfl ?_
                            refine ds_case up_h (fun hb_40 hq_40 => ?_) (fun hb_40 hq_40 => ?_)
                            · (first | replace hq_40 := bnt hq_40 | replace hq_40 := bnf hq_40 | replace hq_40 := bt hq_40 | replace hq_40 := bf hq_40 | replace hq_40 := bt' hq_40 | replace hq_40 := bf' hq_40 | skip)
                              first
                              | (cases hq_40; done) | (exfalso; omega)
                              | (
                                 refine ds_skip' ⟨_, rfl, .inl hb_40⟩ rfl ?_
                                 refine ds_skip' ⟨_, rfl, .inl (up_m rfl hb_40)⟩ rfl ?_
                                 refine ds_skip' ⟨_, rfl, .inl (u2 rfl hb_40)⟩ rfl ?_
                                 refine ds_skip' ⟨_, rfl, .inl (up_m rfl (u2 rfl hb_40))⟩ rfl ?_
                                 refine ds_skip' ⟨_, rfl, .inl (u4 rfl hb_40)⟩ rfl ?_
                                 refine ds_ro' (ro_pickT (up_m rfl (u4 rfl hb_40)) ev_c) trivial rfl ?_
                                 refine ds_ro' (ro_move up_h) trivial rfl ?_
                                 refine ds_skip' ⟨_, rfl, .inl up_h⟩ rfl ?_
                                 refine ds_skip' ⟨_, rfl, .inl (up_m rfl up_h)⟩ rfl ?_
                                 refine ds_skip' ⟨_, rfl, .inl (u2 rfl up_h)⟩ rfl ?_
                                 refine ds_skip' ⟨_, rfl, .inl (up_m rfl (u2 rfl up_h))⟩ rfl ?_
                                 refine ds_skip' ⟨_, rfl, .inl (u4 rfl up_h)⟩ rfl ?_
                                 refine ds_skip' ⟨_, rfl, .inl (up_m rfl (u4 rfl up_h))⟩ rfl ?_
                                 refine ds_skip' ⟨_, rfl, .inl (u2 rfl (u4 rfl up_h))⟩ rfl ?_
                                 refine ds_ro' (ro_pickT (up_m rfl (u2 rfl (u4 rfl up_h))) ev_c) trivial rfl ?_
                                 refine ds_ro' (ro_move up_h) trivial rfl ?_
                                 refine ds_skip' ⟨_, rfl, .inl up_h⟩ rfl ?_
                                 refine ds_skip' ⟨_, rfl, .inl (up_m rfl up_h)⟩ rfl ?_
                                 refine ds_skip' ⟨_, rfl, .inl (u2 rfl up_h)⟩ rfl ?_
                                 refine ds_skip' ⟨_, rfl, .inl (up_m rfl (u2 rfl up_h))⟩ rfl ?_
                                 refine ds_skip' ⟨_, rfl, .inl (u4 rfl up_h)⟩ rfl ?_
                                 refine ds_skip' ⟨_, rfl, .inl (up_m rfl (u4 rfl up_h))⟩ rfl ?_
                                 refine ds_skip' ⟨_, rfl, .inl (u2 rfl (u4 rfl up_h))⟩ rfl ?_
                                 refine ds_skip' ⟨_, rfl, .inl (up_m rfl (u2 rfl (u4 rfl up_h)))⟩ rfl ?_
                                 refine ds_ro' (ro_pickT (u8 rfl up_h) ev_c) trivial rfl ?_
                                 refine ds_ro' (ro_move up_h) trivial rfl ?_
                                 refine ds_skip' ⟨_, rfl, .inl up_h⟩ rfl ?_
                                 refine ds_skip' ⟨_, rfl, .inl (up_m rfl up_h)⟩ rfl ?_
                                 refine ds_skip' ⟨_, rfl, .inl (u2 rfl up_h)⟩ rfl ?_
                                 refine ds_skip' ⟨_, rfl, .inl (up_m rfl (u2 rfl up_h))⟩ rfl ?_
                                 refine ds_ro' (ro_pickT (u4 rfl up_h) ev_c) trivial rfl ?_
                                 refine ds_nil ?_
                                 refine al_end (fun e_41 he_41 => ?_)
                                 have s3_41 := ef 3 he_41 (u2 rfl (u4 rfl (u16 rfl (u16 rfl s3_36))))
                                 have s4_41 := ef 4 he_41 (u2 rfl (u4 rfl (u16 rfl (u16 rfl s4_36))))
                                 have s5_41 := ef 5 he_41 (u2 rfl (u4 rfl (u16 rfl (u16 rfl s5_36))))
                                 have s7_41 := ef 7 he_41 (u2 rfl (u4 rfl (u16 rfl (u16 rfl s7_36))))
                                 have s8_41 := ef 8 he_41 (u2 rfl (u4 rfl (u16 rfl (u16 rfl s8_36))))
                                 have s10_41 := ef 10 he_41 (u2 rfl (u4 rfl (u16 rfl (u16 rfl s10_36))))
                                 have s12_41 := ef 12 he_41 (u2 rfl (u4 rfl (u16 rfl (u16 rfl s12_36))))
                                 have s161_41 := ef 161 he_41 up_h
                                 clear he_41
                                 refine then_n ⟨(s161_41).trans (by (refine avb ?_; simp; omega)), (s3_41).trans (s3_36).symm, (s4_41).trans (s4_36).symm, (s5_41).trans (s5_36).symm, (s7_41).trans (s7_36).symm, (s8_41).trans (s8_36).symm, (s10_41).trans (s10_36).symm, (s12_41).trans (s12_36).symm, rfl⟩)
                            · (first | replace hq_40 := bnt hq_40 | replace hq_40 := bnf hq_40 | replace hq_40 := bt hq_40 | replace hq_40 := bf hq_40 | replace hq_40 := bt' hq_40 | replace hq_40 := bf' hq_40 | skip)
                              first
                              | (cases hq_40; done) | (exfalso; omega)
                              | (
                                 refine ds_ro' (ro_move (up_m rfl (u2 rfl (u4 rfl s8_36)))) ⟨_, rfl, hb_40⟩ rfl ?_
                                 refine ds_ro' (ro_eq (ro_len_row up_h rfl k29_sl22.1) (by first | (simp only [lnS] <;> rfl) | rfl)) ⟨_, rfl, (up_m rfl hb_40)⟩ rfl ?_
                                 refine ds_ro' (ro_move (up_m rfl (u8 rfl s7_36))) ⟨_, rfl, (u2 rfl hb_40)⟩ rfl ?_
                                 first | (refine ds_ro' (ro_add' up_h ev_c ?_) ⟨_, rfl, (up_m rfl (u2 rfl hb_40))⟩ rfl ?_; · (unfold In64; omega)) | refine ds_ro' (ro_add up_h ev_c) ⟨_, rfl, (up_m rfl (u2 rfl hb_40))⟩ rfl ?_
                                 refine ds_ro' (ro_neq (u2 rfl up_h) up_h) ⟨_, rfl, (u4 rfl hb_40)⟩ rfl ?_
                                 refine ds_ro' (ro_pickF (up_m rfl (u4 rfl hb_40)) up_h) trivial rfl ?_
                                 refine ds_ro' (ro_move up_h) trivial rfl ?_
                                 refine ds_case up_h (fun hb_42 hq_42 => ?_) (fun hb_42 hq_42 => ?_)
                                 · (first | replace hq_42 := bnt hq_42 | replace hq_42 := bnf hq_42 | replace hq_42 := bt hq_42 | replace hq_42 := bf hq_42 | replace hq_42 := bt' hq_42 | replace hq_42 := bf' hq_42 | skip)
                                   first
                                   | (cases hq_42; done) | (exfalso; omega)
                                   | (
                                      refine ds_skip' ⟨_, rfl, .inl hb_42⟩ rfl ?_
                                      refine ds_skip' ⟨_, rfl, .inl (up_m rfl hb_42)⟩ rfl ?_
                                      refine ds_skip' ⟨_, rfl, .inl (u2 rfl hb_42)⟩ rfl ?_
                                      refine ds_skip' ⟨_, rfl, .inl (up_m rfl (u2 rfl hb_42))⟩ rfl ?_
                                      refine ds_skip' ⟨_, rfl, .inl (u4 rfl hb_42)⟩ rfl ?_
                                      refine ds_skip' ⟨_, rfl, .inl (up_m rfl (u4 rfl hb_42))⟩ rfl ?_
                                      refine ds_skip' ⟨_, rfl, .inl (u2 rfl (u4 rfl hb_42))⟩ rfl ?_
                                      refine ds_ro' (ro_pickT (up_m rfl (u2 rfl (u4 rfl hb_42))) ev_c) trivial rfl ?_
                                      refine ds_ro' (ro_move up_h) trivial rfl ?_
                                      refine ds_skip' ⟨_, rfl, .inl up_h⟩ rfl ?_
                                      refine ds_skip' ⟨_, rfl, .inl (up_m rfl up_h)⟩ rfl ?_
                                      refine ds_skip' ⟨_, rfl, .inl (u2 rfl up_h)⟩ rfl ?_
                                      refine ds_skip' ⟨_, rfl, .inl (up_m rfl (u2 rfl up_h))⟩ rfl ?_
                                      refine ds_skip' ⟨_, rfl, .inl (u4 rfl up_h)⟩ rfl ?_
                                      refine ds_skip' ⟨_, rfl, .inl (up_m rfl (u4 rfl up_h))⟩ rfl ?_
                                      refine ds_skip' ⟨_, rfl, .inl (u2 rfl (u4 rfl up_h))⟩ rfl ?_
                                      refine ds_skip' ⟨_, rfl, .inl (up_m rfl (u2 rfl (u4 rfl up_h)))⟩ rfl ?_
                                      refine ds_ro' (ro_pickT (u8 rfl up_h) ev_c) trivial rfl ?_
                                      refine ds_ro' (ro_move up_h) trivial rfl ?_
                                      refine ds_skip' ⟨_, rfl, .inl up_h⟩ rfl ?_
                                      refine ds_skip' ⟨_, rfl, .inl (up_m rfl up_h)⟩ rfl ?_
                                      refine ds_skip' ⟨_, rfl, .inl (u2 rfl up_h)⟩ rfl ?_
                                      refine ds_skip' ⟨_, rfl, .inl (up_m rfl (u2 rfl up_h))⟩ rfl ?_
                                      refine ds_ro' (ro_pickT (u4 rfl up_h) ev_c) trivial rfl ?_
                                      refine ds_nil ?_
                                      refine al_end (fun e_43 he_43 => ?_)
                                      have s3_43 := ef 3 he_43 (u2 rfl (u4 rfl (u16 rfl (u16 rfl s3_36))))
                                      have s4_43 := ef 4 he_43 (u2 rfl (u4 rfl (u16 rfl (u16 rfl s4_36))))
                                      have s5_43 := ef 5 he_43 (u2 rfl (u4 rfl (u16 rfl (u16 rfl s5_36))))
                                      have s7_43 := ef 7 he_43 (u2 rfl (u4 rfl (u16 rfl (u16 rfl s7_36))))
                                      have s8_43 := ef 8 he_43 (u2 rfl (u4 rfl (u16 rfl (u16 rfl s8_36))))
                                      have s10_43 := ef 10 he_43 (u2 rfl (u4 rfl (u16 rfl (u16 rfl s10_36))))
                                      have s12_43 := ef 12 he_43 (u2 rfl (u4 rfl (u16 rfl (u16 rfl s12_36))))
                                      have s161_43 := ef 161 he_43 up_h
                                      clear he_43
                                      refine then_n ⟨(s161_43).trans (by (refine avb ?_; simp; omega)), (s3_43).trans (s3_36).symm, (s4_43).trans (s4_36).symm, (s5_43).trans (s5_36).symm, (s7_43).trans (s7_36).symm, (s8_43).trans (s8_36).symm, (s10_43).trans (s10_36).symm, (s12_43).trans (s12_36).symm, rfl⟩)
                                 · (first | replace hq_42 := bnt hq_42 | replace hq_42 := bnf hq_42 | replace hq_42 := bt hq_42 | replace hq_42 := bf hq_42 | replace hq_42 := bt' hq_42 | replace hq_42 := bf' hq_42 | skip)
                                   first
                                   | (cases hq_42; done) | (exfalso; omega)
                                   | (
                                      refine ds_ro' (ro_move (u2 rfl (u4 rfl (u8 rfl s8_36)))) ⟨_, rfl, hb_42⟩ rfl ?_
                                      refine ds_ro' (ro_eq (ro_ix k29_sl22 up_h ev_c (by first | decide | omega | (simp <;> omega)) (by first | (refine idx_map ?_; first | omega | (simp only [lnS]; omega)) | (refine idx_mapI ?_; first | omega | (simp only [lnS]; omega)) | (refine idx_mapN ?_; first | omega | (simp only [lnS]; omega)) | rfl)) (by first | (simp only [packA_t, packA_f, iE, bE, setAt, cellsA, Value.cells, map_vc, map_vn, Nat.reduceAdd, qS] <;> rfl) | rfl)) ⟨_, rfl, (up_m rfl hb_42)⟩ rfl ?_
                                      refine ds_ro' (ro_eq (ro_ld_ref k29_ty3 rfl up_h (by first | exact Nat.le_of_ble_eq_true rfl | omega | (simp only [lnS] <;> omega) | (simp <;> omega))) (by first | (simp only [packA_t, packA_f, iE, bE, setAt, cellsA, Value.cells, map_vc, map_vn, Nat.reduceAdd, qS] <;> rfl) | rfl)) ⟨_, rfl, (u2 rfl hb_42)⟩ rfl ?_
                                      refine ds_ro' (ro_fld_ptr k29_fl56_0 rfl (up_m rfl (u16 rfl s5_36))) ⟨_, rfl, (up_m rfl (u2 rfl hb_42))⟩ rfl ?_
                                      refine ds_ro' (ro_ixa k29_ar54 up_h ev_c rfl) ⟨_, rfl, (u4 rfl hb_42)⟩ rfl ?_
                                      refine ds_ro' (ro_eq (ro_ld_ptr k29_ty3 rfl mo2_3 up_h (by first | exact Nat.le_of_ble_eq_true rfl | omega | (simp only [lnS] <;> omega) | (simp <;> omega))) (by first | (simp only [packA_t, packA_f, iE, bE, setAt, cellsA, Value.cells, map_vc, map_vn, Nat.reduceAdd, qS] <;> rfl) | rfl)) ⟨_, rfl, (up_m rfl (u4 rfl hb_42))⟩ rfl ?_
                                      refine ds_ro' (ro_neq (up_m rfl (u2 rfl up_h)) up_h) ⟨_, rfl, (u2 rfl (u4 rfl hb_42))⟩ rfl ?_
                                      refine ds_ro' (ro_pickF (up_m rfl (u2 rfl (u4 rfl hb_42))) up_h) trivial rfl ?_
                                      refine ds_ro' (ro_move up_h) trivial rfl ?_
                                      refine ds_case up_h (fun hb_44 hq_44 => ?_) (fun hb_44 hq_44 => ?_)
                                      · (first | replace hq_44 := bnt hq_44 | replace hq_44 := bnf hq_44 | replace hq_44 := bt hq_44 | replace hq_44 := bf hq_44 | replace hq_44 := bt' hq_44 | replace hq_44 := bf' hq_44 | skip)
                                        first
                                        | (cases hq_44; done) | (exfalso; omega)
                                        | (
                                           refine ds_skip' ⟨_, rfl, .inl hb_44⟩ rfl ?_
                                           refine ds_skip' ⟨_, rfl, .inl (up_m rfl hb_44)⟩ rfl ?_
                                           refine ds_skip' ⟨_, rfl, .inl (u2 rfl hb_44)⟩ rfl ?_
                                           refine ds_skip' ⟨_, rfl, .inl (up_m rfl (u2 rfl hb_44))⟩ rfl ?_
                                           refine ds_skip' ⟨_, rfl, .inl (u4 rfl hb_44)⟩ rfl ?_
                                           refine ds_skip' ⟨_, rfl, .inl (up_m rfl (u4 rfl hb_44))⟩ rfl ?_
                                           refine ds_skip' ⟨_, rfl, .inl (u2 rfl (u4 rfl hb_44))⟩ rfl ?_
                                           refine ds_skip' ⟨_, rfl, .inl (up_m rfl (u2 rfl (u4 rfl hb_44)))⟩ rfl ?_
                                           refine ds_ro' (ro_pickT (u8 rfl hb_44) ev_c) trivial rfl ?_
                                           refine ds_ro' (ro_move up_h) trivial rfl ?_
                                           refine ds_skip' ⟨_, rfl, .inl up_h⟩ rfl ?_
                                           refine ds_skip' ⟨_, rfl, .inl (up_m rfl up_h)⟩ rfl ?_
                                           refine ds_skip' ⟨_, rfl, .inl (u2 rfl up_h)⟩ rfl ?_
                                           refine ds_skip' ⟨_, rfl, .inl (up_m rfl (u2 rfl up_h))⟩ rfl ?_
                                           refine ds_ro' (ro_pickT (u4 rfl up_h) ev_c) trivial rfl ?_
                                           refine ds_nil ?_
                                           refine al_end (fun e_45 he_45 => ?_)
                                           have s3_45 := ef 3 he_45 (u2 rfl (u4 rfl (u16 rfl (u16 rfl s3_36))))
                                           have s4_45 := ef 4 he_45 (u2 rfl (u4 rfl (u16 rfl (u16 rfl s4_36))))
                                           have s5_45 := ef 5 he_45 (u2 rfl (u4 rfl (u16 rfl (u16 rfl s5_36))))
                                           have s7_45 := ef 7 he_45 (u2 rfl (u4 rfl (u16 rfl (u16 rfl s7_36))))
                                           have s8_45 := ef 8 he_45 (u2 rfl (u4 rfl (u16 rfl (u16 rfl s8_36))))
                                           have s10_45 := ef 10 he_45 (u2 rfl (u4 rfl (u16 rfl (u16 rfl s10_36))))
                                           have s12_45 := ef 12 he_45 (u2 rfl (u4 rfl (u16 rfl (u16 rfl s12_36))))
                                           have s161_45 := ef 161 he_45 up_h
                                           clear he_45
                                           refine then_n ⟨(s161_45).trans (by (refine avb ?_; simp; omega)), (s3_45).trans (s3_36).symm, (s4_45).trans (s4_36).symm, (s5_45).trans (s5_36).symm, (s7_45).trans (s7_36).symm, (s8_45).trans (s8_36).symm, (s10_45).trans (s10_36).symm, (s12_45).trans (s12_36).symm, rfl⟩)
                                      · (first | replace hq_44 := bnt hq_44 | replace hq_44 := bnf hq_44 | replace hq_44 := bt hq_44 | replace hq_44 := bf hq_44 | replace hq_44 := bt' hq_44 | replace hq_44 := bf' hq_44 | skip)
                                        first
                                        | (cases hq_44; done) | (exfalso; omega)
                                        | (
                                           refine ds_ro' (ro_move (up_m rfl (u2 rfl (u4 rfl (u16 rfl s8_36))))) ⟨_, rfl, hb_44⟩ rfl ?_
                                           refine ds_ro' (ro_move (u8 rfl (u16 rfl s7_36))) ⟨_, rfl, (up_m rfl hb_44)⟩ rfl ?_
                                           refine ds_ro' (ro_eq (ro_ix k29_sl22 (up_m rfl up_h) up_h (by first | decide | omega | (simp <;> omega)) (by first | (refine idx_map ?_; first | omega | (simp only [lnS]; omega)) | (refine idx_mapI ?_; first | omega | (simp only [lnS]; omega)) | (refine idx_mapN ?_; first | omega | (simp only [lnS]; omega)) | rfl)) (by first | (simp only [packA_t, packA_f, iE, bE, setAt, cellsA, Value.cells, map_vc, map_vn, Nat.reduceAdd, qS] <;> rfl) | rfl)) ⟨_, rfl, (u2 rfl hb_44)⟩ rfl ?_
                                           refine ds_ro' (ro_eq (ro_ld_ref k29_ty3 rfl up_h (by first | exact Nat.le_of_ble_eq_true rfl | omega | (simp only [lnS] <;> omega) | (simp <;> omega))) (by first | (simp only [packA_t, packA_f, iE, bE, setAt, cellsA, Value.cells, map_vc, map_vn, Nat.reduceAdd, qS] <;> rfl) | rfl)) ⟨_, rfl, (up_m rfl (u2 rfl hb_44))⟩ rfl ?_
                                           refine ds_ro' (ro_fld_ptr k29_fl56_0 rfl (up_m rfl (u2 rfl (u8 rfl (u16 rfl s5_36))))) ⟨_, rfl, (u4 rfl hb_44)⟩ rfl ?_
                                           refine ds_ro' (ro_ixa k29_ar54 up_h ev_c rfl) ⟨_, rfl, (up_m rfl (u4 rfl hb_44))⟩ rfl ?_
                                           refine ds_ro' (ro_eq (ro_ld_ptr k29_ty3 rfl mo2_3 up_h (by first | exact Nat.le_of_ble_eq_true rfl | omega | (simp only [lnS] <;> omega) | (simp <;> omega))) (by first | (simp only [packA_t, packA_f, iE, bE, setAt, cellsA, Value.cells, map_vc, map_vn, Nat.reduceAdd, qS] <;> rfl) | rfl)) ⟨_, rfl, (u2 rfl (u4 rfl hb_44))⟩ rfl ?_
                                           refine ds_ro' (ro_gtr (up_m rfl (u2 rfl up_h)) up_h) ⟨_, rfl, (up_m rfl (u2 rfl (u4 rfl hb_44)))⟩ rfl ?_
                                           refine ds_ro' (ro_pickF (u8 rfl hb_44) up_h) trivial rfl ?_
                                           refine ds_ro' (ro_move up_h) trivial rfl ?_
                                           refine ds_case up_h (fun hb_46 hq_46 => ?_) (fun hb_46 hq_46 => ?_)
                                           · (first | replace hq_46 := bnt hq_46 | replace hq_46 := bnf hq_46 | replace hq_46 := bt hq_46 | replace hq_46 := bf hq_46 | replace hq_46 := bt' hq_46 | replace hq_46 := bf' hq_46 | skip)
                                             first
                                             | (cases hq_46; done) | (exfalso; omega)
                                             | (
                                                refine ds_skip' ⟨_, rfl, .inl hb_46⟩ rfl ?_
                                                refine ds_skip' ⟨_, rfl, .inl (up_m rfl hb_46)⟩ rfl ?_
                                                refine ds_skip' ⟨_, rfl, .inl (u2 rfl hb_46)⟩ rfl ?_
                                                refine ds_skip' ⟨_, rfl, .inl (up_m rfl (u2 rfl hb_46))⟩ rfl ?_
                                                refine ds_ro' (ro_pickT (u4 rfl hb_46) ev_c) trivial rfl ?_
                                                refine ds_nil ?_
                                                refine al_end (fun e_47 he_47 => ?_)
                                                have s3_47 := ef 3 he_47 (u2 rfl (u4 rfl (u16 rfl (u16 rfl s3_36))))
                                                have s4_47 := ef 4 he_47 (u2 rfl (u4 rfl (u16 rfl (u16 rfl s4_36))))
                                                have s5_47 := ef 5 he_47 (u2 rfl (u4 rfl (u16 rfl (u16 rfl s5_36))))
                                                have s7_47 := ef 7 he_47 (u2 rfl (u4 rfl (u16 rfl (u16 rfl s7_36))))
                                                have s8_47 := ef 8 he_47 (u2 rfl (u4 rfl (u16 rfl (u16 rfl s8_36))))
                                                have s10_47 := ef 10 he_47 (u2 rfl (u4 rfl (u16 rfl (u16 rfl s10_36))))
                                                have s12_47 := ef 12 he_47 (u2 rfl (u4 rfl (u16 rfl (u16 rfl s12_36))))
                                                have s161_47 := ef 161 he_47 up_h
                                                clear he_47
                                                refine then_n ⟨(s161_47).trans (by (refine avb ?_; simp; omega)), (s3_47).trans (s3_36).symm, (s4_47).trans (s4_36).symm, (s5_47).trans (s5_36).symm, (s7_47).trans (s7_36).symm, (s8_47).trans (s8_36).symm, (s10_47).trans (s10_36).symm, (s12_47).trans (s12_36).symm, rfl⟩)
                                           · (first | replace hq_46 := bnt hq_46 | replace hq_46 := bnf hq_46 | replace hq_46 := bt hq_46 | replace hq_46 := bf hq_46 | replace hq_46 := bt' hq_46 | replace hq_46 := bf' hq_46 | skip)
                                             first
                                             | (cases hq_46; done) | (exfalso; omega)
                                             | (
                                                refine ds_ro' (ro_eq (ro_ld_ptr k29_ty51 rfl mo0_3 (up_m rfl (u16 rfl (u16 rfl s3_36))) (by first | exact Nat.le_of_ble_eq_true rfl | omega | (simp only [lnS] <;> omega) | (simp <;> omega))) (by first | (simp only [packA_t, packA_f, iE, bE, setAt, cellsA, Value.cells, map_vc, map_vn, Nat.reduceAdd, qS] <;> rfl) | rfl)) ⟨_, rfl, hb_46⟩ rfl ?_
                                                refine ds_ro' (ro_move (u2 rfl (u16 rfl (u16 rfl s8_36)))) ⟨_, rfl, (up_m rfl hb_46)⟩ rfl ?_
                                                refine ds_ro' (ro_call (evL_cons (up_m rfl up_h) (evL_cons up_h evL_nil)) rfl (rSquaresErr_ok _ (by omega) nm ps hp) k29_hcf24) ⟨_, rfl, (u2 rfl hb_46)⟩ rfl ?_
                                                refine ds_ro' (ro_neq up_h ev_c) ⟨_, rfl, (up_m rfl (u2 rfl hb_46))⟩ rfl ?_
                                                refine ds_ro' (ro_pickF (u4 rfl hb_46) up_h) trivial rfl ?_
                                                refine ds_nil ?_
                                                refine al_end (fun e_48 he_48 => ?_)
                                                have s3_48 := ef 3 he_48 (u2 rfl (u4 rfl (u16 rfl (u16 rfl s3_36))))
                                                have s4_48 := ef 4 he_48 (u2 rfl (u4 rfl (u16 rfl (u16 rfl s4_36))))
                                                have s5_48 := ef 5 he_48 (u2 rfl (u4 rfl (u16 rfl (u16 rfl s5_36))))
                                                have s7_48 := ef 7 he_48 (u2 rfl (u4 rfl (u16 rfl (u16 rfl s7_36))))
                                                have s8_48 := ef 8 he_48 (u2 rfl (u4 rfl (u16 rfl (u16 rfl s8_36))))
                                                have s10_48 := ef 10 he_48 (u2 rfl (u4 rfl (u16 rfl (u16 rfl s10_36))))
                                                have s12_48 := ef 12 he_48 (u2 rfl (u4 rfl (u16 rfl (u16 rfl s12_36))))
                                                have s161_48 := ef 161 he_48 up_h
                                                clear he_48
                                                refine then_n ⟨(s161_48).trans (by (refine avb ?_; simp; omega)), (s3_48).trans (s3_36).symm, (s4_48).trans (s4_36).symm, (s5_48).trans (s5_36).symm, (s7_48).trans (s7_36).symm, (s8_48).trans (s8_36).symm, (s10_48).trans (s10_36).symm, (s12_48).trans (s12_36).symm, rfl⟩)))))
                     · rintro e_37 _ ⟨s161_37, k3_37, k4_37, k5_37, k7_37, k8_37, k10_37, k12_37, rfl⟩
                       have s3_37 := k3_37.trans s3_36
                       have s4_37 := k4_37.trans s4_36
                       have s5_37 := k5_37.trans s5_36
                       have s7_37 := k7_37.trans s7_36
                       have s8_37 := k8_37.trans s8_36
                       have s10_37 := k10_37.trans s10_36
                       have s12_37 := k12_37.trans s12_36
                       refine aw_case s161_37 (fun hq_49 => ?_) (fun hq_49 => ?_)
                       · (first | replace hq_49 := bnt hq_49 | replace hq_49 := bnf hq_49 | replace hq_49 := bt hq_49 | replace hq_49 := bf hq_49 | replace hq_49 := bt' hq_49 | replace hq_49 := bf' hq_49 | skip)
                         first
                         | (cases hq_49; done) | (exfalso; omega)
                         | (
                            refine aw_seq ?_
                            refine aw_text (by kernel_rfl) ?_
                            refine al_ro' (ro_assign ev_c) trivial rfl ?_
                            refine al_end (fun e_50 he_50 => ?_)
                            have s6_50 := ef 6 he_50 up_h
                            clear he_50 s10_37 s12_37 s161_37 s3_37 s4_37 s5_37 s7_37 s8_37
                            refine then_n ?_
                            refine aw_ret ?_
                            refine then_r ?_
                            refine ret1 (.inr rfl) (by kernel_rfl) (resV_tmp s6_50) (.ro _ rfl) ?_
                            clear s6_50 mo2_3 mo1_3 mo0_3 ml_3
                            (first | rfl | (exfalso; omega) | (simp; done) | (simp [h12, hnr]; done)))
                       · (first | replace hq_49 := bnt hq_49 | replace hq_49 := bnf hq_49 | replace hq_49 := bt hq_49 | replace hq_49 := bf hq_49 | replace hq_49 := bt' hq_49 | replace hq_49 := bf' hq_49 | skip)
                         first
                         | (cases hq_49; done) | (exfalso; omega)
                         | (
                            refine aw_skip ?_
                            refine then_n ?_
                            refine aw_seq ?_
                            refine aw_seq ?_
                            refine aw_text (by kernel_rfl) ?_
                            refine al_ro' (ro_move s12_37) trivial rfl ?_
                            refine al_end (fun e_51 he_51 => ?_)
                            have s3_51 := ef 3 he_51 (up_m rfl s3_37)
                            have s4_51 := ef 4 he_51 (up_m rfl s4_37)
                            have s5_51 := ef 5 he_51 (up_m rfl s5_37)
                            have s7_51 := ef 7 he_51 (up_m rfl s7_37)
                            have s8_51 := ef 8 he_51 (up_m rfl s8_37)
                            have s10_51 := ef 10 he_51 (up_m rfl s10_37)
                            have s162_51 := ef 162 he_51 up_h
                            clear he_51 s10_37 s12_37 s161_37 s3_37 s4_37 s5_37 s7_37 s8_37
                            refine then_n ?_
                            refine aw_case s162_51 (fun hq_52 => ?_) (fun hq_52 => ?_)
                            · (first | replace hq_52 := bnt hq_52 | replace hq_52 := bnf hq_52 | replace hq_52 := bt hq_52 | replace hq_52 := bf hq_52 | replace hq_52 := bt' hq_52 | replace hq_52 := bf' hq_52 | skip)
                              first
                              | (cases hq_52; done) | (exfalso; omega)
                              | (
                                 (have hrv : rivB nm ps b d v e0 e1 xs := (by assumption); have hB := riv_rival hrv; have hB2 := hB.2; have hfr := fast_of_rival hB.1; have hx1 := (ck_zero hrv.1).1; have hxl := hB.1.1; have htm := times_or (chk_right h1).1 hB.1.2.1 hA.1.2.1 hfr.2)
                                 refine aw_seq ?_
                                 refine aw_seq ?_
                                 refine aw_text (by kernel_rfl) ?_
                                 refine al_ro' (ro_assign ev_c) trivial rfl ?_
                                 refine al_end (fun e_53 he_53 => ?_)
                                 have s3_53 := ef 3 he_53 (up_m rfl s3_51)
                                 have s4_53 := ef 4 he_53 (up_m rfl s4_51)
                                 have s5_53 := ef 5 he_53 (up_m rfl s5_51)
                                 have s7_53 := ef 7 he_53 (up_m rfl s7_51)
                                 have s8_53 := ef 8 he_53 (up_m rfl s8_51)
                                 have s10_53 := ef 10 he_53 (up_m rfl s10_51)
                                 have s15_53 := ef 15 he_53 up_h
                                 clear he_53 s10_51 s162_51 s3_51 s4_51 s5_51 s7_51 s8_51
                                 refine then_n ?_
                                 refine aw_block ?_
                                 refine aw_loop (S := Int) (fun i e mem => (evA e (.tmp 15) = .v (.int .i64 i)) ∧ (evA e (.tmp 3) = evA e_53 (.tmp 3)) ∧ (evA e (.tmp 4) = evA e_53 (.tmp 4)) ∧ (evA e (.tmp 5) = evA e_53 (.tmp 5)) ∧ (evA e (.tmp 7) = evA e_53 (.tmp 7)) ∧ (evA e (.tmp 8) = evA e_53 (.tmp 8)) ∧ (evA e (.tmp 10) = evA e_53 (.tmp 10)) ∧ (mem[2]? = m_3[2]?) ∧ (mem[1]? = m_3[1]?) ∧ (mem[0]? = m_3[0]?) ∧ (mem.length = 3) ∧ ((0 ≤ i ∧ i ≤ ps.length + 1))) (fun i => (ps.length + 1 - i).toNat) _ ⟨s15_53, rfl, rfl, rfl, rfl, rfl, rfl, rfl, rfl, rfl, ml_3, ?_⟩ ?_
                                 · (exact ⟨by omega, by omega⟩)
                                 · rintro i e_54 m_54 ⟨s15_54, k3_54, k4_54, k5_54, k7_54, k8_54, k10_54, mk2_54, mk1_54, mk0_54, ml_54, hinv⟩
                                   have s3_54 := k3_54.trans s3_53
                                   have s4_54 := k4_54.trans s4_53
                                   have s5_54 := k5_54.trans s5_53
                                   have s7_54 := k7_54.trans s7_53
                                   have s8_54 := k8_54.trans s8_53
                                   have s10_54 := k10_54.trans s10_53
                                   have mo2_54 := mk2_54.trans mo2_3
                                   have mo1_54 := mk1_54.trans mo1_3
                                   have mo0_54 := mk0_54.trans mo0_3
                                   (obtain ⟨p1, p2⟩ := hinv)
                                   refine aw_seq ?_
                                   refine aw_seq ?_
                                   refine aw_text (by kernel_rfl) ?_
                                   refine al_ro' (ro_move s15_54) trivial rfl ?_
                                   refine al_ro' (ro_move (up_m rfl s7_54)) trivial rfl ?_
                                   refine al_ro' (ro_leq (up_m rfl up_h) up_h) trivial rfl ?_
                                   refine al_end (fun e_55 he_55 => ?_)
                                   have s3_55 := ef 3 he_55 (up_m rfl (u2 rfl s3_54))
                                   have s4_55 := ef 4 he_55 (up_m rfl (u2 rfl s4_54))
                                   have s5_55 := ef 5 he_55 (up_m rfl (u2 rfl s5_54))
                                   have s7_55 := ef 7 he_55 (up_m rfl (u2 rfl s7_54))
                                   have s8_55 := ef 8 he_55 (up_m rfl (u2 rfl s8_54))
                                   have s10_55 := ef 10 he_55 (up_m rfl (u2 rfl s10_54))
                                   have s15_55 := ef 15 he_55 (up_m rfl (u2 rfl s15_54))
                                   have s165_55 := ef 165 he_55 up_h
                                   clear he_55 s10_54 s15_54 s3_54 s4_54 s5_54 s7_54 s8_54
                                   refine then_n ?_
                                   refine aw_case s165_55 (fun hq_56 => ?_) (fun hq_56 => ?_)
                                   · (first | replace hq_56 := bnt hq_56 | replace hq_56 := bnf hq_56 | replace hq_56 := bt hq_56 | replace hq_56 := bf hq_56 | replace hq_56 := bt' hq_56 | replace hq_56 := bf' hq_56 | skip)
                                     first
                                     | (cases hq_56; done) | (exfalso; omega)
                                     | (
                                        (have hm := hfr.2 i.toNat (by omega))
                                        refine aw_skip ?_
                                        refine then_n ?_
                                        refine aw_seq ?_
                                        refine aw_block ?_
                                        refine aw_seq ?_
                                        refine aw_cut (fun e mem => (evA e (.tmp 181) = .v (.bool false)) ∧ (evA e (.tmp 3) = evA e_55 (.tmp 3)) ∧ (evA e (.tmp 4) = evA e_55 (.tmp 4)) ∧ (evA e (.tmp 5) = evA e_55 (.tmp 5)) ∧ (evA e (.tmp 7) = evA e_55 (.tmp 7)) ∧ (evA e (.tmp 8) = evA e_55 (.tmp 8)) ∧ (evA e (.tmp 10) = evA e_55 (.tmp 10)) ∧ (evA e (.tmp 15) = evA e_55 (.tmp 15)) ∧ m_54 = mem) ?_ ?_
                                        ·
                                          refine aw_draw 14 (by kernel_rfl) (by kernel_rfl) (by kernel_rfl) (by kernel_rfl) ?_
                                          refine ds_ro' (ro_move s10_55) trivial rfl ?_
                                          refine ds_ro' (ro_neq up_h ev_c) trivial rfl ?_
                                          refine ds_ro' (ro_move up_h) trivial rfl ?_
                                          refine ds_case up_h (fun hb_58 hq_58 => ?_) (fun hb_58 hq_58 => ?_)
                                          · (first | replace hq_58 := bnt hq_58 | replace hq_58 := bnf hq_58 | replace hq_58 := bt hq_58 | replace hq_58 := bf hq_58 | replace hq_58 := bt' hq_58 | replace hq_58 := bf' hq_58 | skip)
                                            first
                                            | (cases hq_58; done) | (exfalso; omega)
                                            | (
                                               refine ds_skip' ⟨_, rfl, .inl hb_58⟩ rfl ?_
                                               refine ds_skip' ⟨_, rfl, .inl (up_m rfl hb_58)⟩ rfl ?_
                                               refine ds_skip' ⟨_, rfl, .inl (u2 rfl hb_58)⟩ rfl ?_
                                               refine ds_skip' ⟨_, rfl, .inl (up_m rfl (u2 rfl hb_58))⟩ rfl ?_
                                               refine ds_skip' ⟨_, rfl, .inl (u4 rfl hb_58)⟩ rfl ?_
                                               refine ds_skip' ⟨_, rfl, .inl (up_m rfl (u4 rfl hb_58))⟩ rfl ?_
                                               refine ds_skip' ⟨_, rfl, .inl (u2 rfl (u4 rfl hb_58))⟩ rfl ?_
                                               refine ds_skip' ⟨_, rfl, .inl (up_m rfl (u2 rfl (u4 rfl hb_58)))⟩ rfl ?_
                                               refine ds_skip' ⟨_, rfl, .inl (u8 rfl hb_58)⟩ rfl ?_
                                               refine ds_skip' ⟨_, rfl, .inl (up_m rfl (u8 rfl hb_58))⟩ rfl ?_
                                               refine ds_ro' (ro_pickT (u2 rfl (u8 rfl hb_58)) ev_c) trivial rfl ?_
                                               refine ds_nil ?_
                                               refine al_end (fun e_59 he_59 => ?_)
                                               have s3_59 := ef 3 he_59 (u2 rfl (u4 rfl (u8 rfl s3_55)))
                                               have s4_59 := ef 4 he_59 (u2 rfl (u4 rfl (u8 rfl s4_55)))
                                               have s5_59 := ef 5 he_59 (u2 rfl (u4 rfl (u8 rfl s5_55)))
                                               have s7_59 := ef 7 he_59 (u2 rfl (u4 rfl (u8 rfl s7_55)))
                                               have s8_59 := ef 8 he_59 (u2 rfl (u4 rfl (u8 rfl s8_55)))
                                               have s10_59 := ef 10 he_59 (u2 rfl (u4 rfl (u8 rfl s10_55)))
                                               have s15_59 := ef 15 he_59 (u2 rfl (u4 rfl (u8 rfl s15_55)))
                                               have s181_59 := ef 181 he_59 up_h
                                               clear he_59
                                               refine then_n ⟨(s181_59).trans (by (first | rfl | (refine avb ?_; simp only [decide_eq_true_eq, Bool.false_eq_true, true_iff, false_iff, iff_false, iff_true]; omega))), (s3_59).trans (s3_55).symm, (s4_59).trans (s4_55).symm, (s5_59).trans (s5_55).symm, (s7_59).trans (s7_55).symm, (s8_59).trans (s8_55).symm, (s10_59).trans (s10_55).symm, (s15_59).trans (s15_55).symm, rfl⟩)
                                          · (first | replace hq_58 := bnt hq_58 | replace hq_58 := bnf hq_58 | replace hq_58 := bt hq_58 | replace hq_58 := bf hq_58 | replace hq_58 := bt' hq_58 | replace hq_58 := bf' hq_58 | skip)
                                            first
                                            | (cases hq_58; done) | (exfalso; omega)
                                            | (
                                               refine ds_ro' (ro_fld_ptr k29_fl56_1 rfl (up_m rfl (u2 rfl s5_55))) ⟨_, rfl, hb_58⟩ rfl ?_
                                               refine ds_ro' (ro_eq (ro_ld_ptr k29_ty22 rfl mo2_54 up_h (by first | exact Nat.le_of_ble_eq_true rfl | omega | (simp only [lnS] <;> omega) | (simp <;> omega))) (by first | (simp only [packA_t, packA_f, iE, bE, setAt, cellsA, Value.cells, map_vc, map_vn, Nat.reduceAdd, qS] <;> rfl) | rfl)) ⟨_, rfl, (up_m rfl hb_58)⟩ rfl ?_
                                               refine ds_ro' (ro_move (up_m rfl (u4 rfl s15_55))) ⟨_, rfl, (u2 rfl hb_58)⟩ rfl ?_
                                               refine ds_ro' (ro_eq (ro_ix k29_sl22 (up_m rfl up_h) up_h (by first | decide | omega | (simp <;> omega)) (by first | (refine idx_map ?_; first | omega | (simp only [lnS]; omega)) | (refine idx_mapI ?_; first | omega | (simp only [lnS]; omega)) | (refine idx_mapN ?_; first | omega | (simp only [lnS]; omega)) | rfl)) (by first | (simp only [packA_t, packA_f, iE, bE, setAt, cellsA, Value.cells, map_vc, map_vn, Nat.reduceAdd, qS] <;> rfl) | rfl)) ⟨_, rfl, (up_m rfl (u2 rfl hb_58))⟩ rfl ?_
                                               refine ds_ro' (ro_eq (ro_ld_ref k29_ty3 rfl up_h (by first | exact Nat.le_of_ble_eq_true rfl | omega | (simp only [lnS] <;> omega) | (simp <;> omega))) (by first | (simp only [packA_t, packA_f, iE, bE, setAt, cellsA, Value.cells, map_vc, map_vn, Nat.reduceAdd, qS] <;> rfl) | rfl)) ⟨_, rfl, (u4 rfl hb_58)⟩ rfl ?_
                                               refine ds_ro' (ro_move (u8 rfl s8_55)) ⟨_, rfl, (up_m rfl (u4 rfl hb_58))⟩ rfl ?_
                                               refine ds_ro' (ro_move (up_m rfl (u8 rfl s15_55))) ⟨_, rfl, (u2 rfl (u4 rfl hb_58))⟩ rfl ?_
                                               refine ds_ro' (ro_eq (ro_ix k29_sl22 (up_m rfl up_h) up_h (by first | decide | omega | (simp <;> omega)) (by first | (refine idx_map ?_; first | omega | (simp only [lnS]; omega)) | (refine idx_mapI ?_; first | omega | (simp only [lnS]; omega)) | (refine idx_mapN ?_; first | omega | (simp only [lnS]; omega)) | rfl)) (by first | (simp only [packA_t, packA_f, iE, bE, setAt, cellsA, Value.cells, map_vc, map_vn, Nat.reduceAdd, qS] <;> rfl) | rfl)) ⟨_, rfl, (up_m rfl (u2 rfl (u4 rfl hb_58)))⟩ rfl ?_
                                               refine ds_ro' (ro_eq (ro_ld_ref k29_ty3 rfl up_h (by first | exact Nat.le_of_ble_eq_true rfl | omega | (simp only [lnS] <;> omega) | (simp <;> omega))) (by first | (simp only [packA_t, packA_f, iE, bE, setAt, cellsA, Value.cells, map_vc, map_vn, Nat.reduceAdd, qS] <;> rfl) | rfl)) ⟨_, rfl, (u8 rfl hb_58)⟩ rfl ?_
                                               refine ds_ro' (ro_gtr (u4 rfl up_h) up_h) ⟨_, rfl, (up_m rfl (u8 rfl hb_58))⟩ rfl ?_
                                               refine ds_ro' (ro_pickF (u2 rfl (u8 rfl hb_58)) up_h) trivial rfl ?_
                                               refine ds_nil ?_
                                               refine al_end (fun e_60 he_60 => ?_)
                                               have s3_60 := ef 3 he_60 (u2 rfl (u4 rfl (u8 rfl s3_55)))
                                               have s4_60 := ef 4 he_60 (u2 rfl (u4 rfl (u8 rfl s4_55)))
                                               have s5_60 := ef 5 he_60 (u2 rfl (u4 rfl (u8 rfl s5_55)))
                                               have s7_60 := ef 7 he_60 (u2 rfl (u4 rfl (u8 rfl s7_55)))
                                               have s8_60 := ef 8 he_60 (u2 rfl (u4 rfl (u8 rfl s8_55)))
                                               have s10_60 := ef 10 he_60 (u2 rfl (u4 rfl (u8 rfl s10_55)))
                                               have s15_60 := ef 15 he_60 (u2 rfl (u4 rfl (u8 rfl s15_55)))
                                               have s181_60 := ef 181 he_60 up_h
                                               clear he_60
                                               refine then_n ⟨(s181_60).trans (by (first | rfl | (refine avb ?_; simp only [decide_eq_true_eq, Bool.false_eq_true, true_iff, false_iff, iff_false, iff_true]; omega))), (s3_60).trans (s3_55).symm, (s4_60).trans (s4_55).symm, (s5_60).trans (s5_55).symm, (s7_60).trans (s7_55).symm, (s8_60).trans (s8_55).symm, (s10_60).trans (s10_55).symm, (s15_60).trans (s15_55).symm, rfl⟩)
                                        · rintro e_57 _ ⟨s181_57, k3_57, k4_57, k5_57, k7_57, k8_57, k10_57, k15_57, rfl⟩
                                          have s3_57 := k3_57.trans s3_55
                                          have s4_57 := k4_57.trans s4_55
                                          have s5_57 := k5_57.trans s5_55
                                          have s7_57 := k7_57.trans s7_55
                                          have s8_57 := k8_57.trans s8_55
                                          have s10_57 := k10_57.trans s10_55
                                          have s15_57 := k15_57.trans s15_55
                                          refine aw_case s181_57 (fun hq_61 => ?_) (fun hq_61 => ?_)
                                          · (first | replace hq_61 := bnt hq_61 | replace hq_61 := bnf hq_61 | replace hq_61 := bt hq_61 | replace hq_61 := bf hq_61 | replace hq_61 := bt' hq_61 | replace hq_61 := bf' hq_61 | skip)
                                            first
                                            | (cases hq_61; done) | (exfalso; omega)
                                            | (
                                               refine aw_seq ?_
                                               refine aw_text (by kernel_rfl) ?_
                                               refine al_ro' (ro_assign ev_c) trivial rfl ?_
                                               refine al_end (fun e_62 he_62 => ?_)
                                               have s6_62 := ef 6 he_62 up_h
                                               clear he_62 s10_57 s15_57 s181_57 s3_57 s4_57 s5_57 s7_57 s8_57
                                               refine then_n ?_
                                               refine aw_ret ?_
                                               refine block_r ?_
                                               refine then_r ?_
                                               refine then_r ?_
                                               refine block_r ?_
                                               refine then_r ?_
                                               refine then_r ?_
                                               refine ret1 (.inr rfl) (by kernel_rfl) (resV_tmp s6_62) (.ro _ rfl) ?_
                                               clear s6_62 mo2_54 mo1_54 mo0_54 ml_54
                                               (first | rfl | (exfalso; omega) | (simp; done) | (simp [h12, hnr]; done)))
                                          · (first | replace hq_61 := bnt hq_61 | replace hq_61 := bnf hq_61 | replace hq_61 := bt hq_61 | replace hq_61 := bf hq_61 | replace hq_61 := bt' hq_61 | replace hq_61 := bf' hq_61 | skip)
                                            first
                                            | (cases hq_61; done) | (exfalso; omega)
                                            | (
                                               refine aw_skip ?_
                                               refine block_n ?_
                                               refine then_n ?_
                                               refine aw_text (by kernel_rfl) ?_
                                               refine al_ro' (ro_move s15_57) trivial rfl ?_
                                               first | (refine al_ro' (ro_add' up_h ev_c ?_) trivial rfl ?_; · (unfold In64; omega)) | refine al_ro' (ro_add up_h ev_c) trivial rfl ?_
                                               refine al_ro' (ro_assign up_h) trivial rfl ?_
                                               refine al_end (fun e_63 he_63 => ?_)
                                               have s3_63 := ef 3 he_63 (up_m rfl (u2 rfl s3_57))
                                               have s4_63 := ef 4 he_63 (up_m rfl (u2 rfl s4_57))
                                               have s5_63 := ef 5 he_63 (up_m rfl (u2 rfl s5_57))
                                               have s7_63 := ef 7 he_63 (up_m rfl (u2 rfl s7_57))
                                               have s8_63 := ef 8 he_63 (up_m rfl (u2 rfl s8_57))
                                               have s10_63 := ef 10 he_63 (up_m rfl (u2 rfl s10_57))
                                               have s15_63 := ef 15 he_63 up_h
                                               clear he_63 s10_57 s15_57 s181_57 s3_57 s4_57 s5_57 s7_57 s8_57
                                               refine then_n ?_
                                               refine ⟨_, ⟨s15_63, (s3_63.trans s3_53.symm), (s4_63.trans s4_53.symm), (s5_63.trans s5_53.symm), (s7_63.trans s7_53.symm), (s8_63.trans s8_53.symm), (s10_63.trans s10_53.symm), (mo2_54.trans mo2_3.symm), (mo1_54.trans mo1_3.symm), (mo0_54.trans mo0_3.symm), ml_54, ?_⟩, ?_⟩
                                               · (exact ⟨by omega, by omega⟩)
                                               · ((try dsimp only); omega)))
                                   · (first | replace hq_56 := bnt hq_56 | replace hq_56 := bnf hq_56 | replace hq_56 := bt hq_56 | replace hq_56 := bf hq_56 | replace hq_56 := bt' hq_56 | replace hq_56 := bf' hq_56 | skip)
                                     first
                                     | (cases hq_56; done) | (exfalso; omega)
                                     | (
                                        refine aw_exit ?_
                                        refine then_x ?_
                                        refine then_x ?_
                                        refine block_hit ?_
                                        refine then_n ?_
                                        refine aw_seq ?_
                                        refine aw_text (by kernel_rfl) ?_
                                        refine al_ro' (ro_eq (ro_ld_ptr k29_ty51 rfl mo0_54 s3_55 (by first | exact Nat.le_of_ble_eq_true rfl | omega | (simp only [lnS] <;> omega) | (simp <;> omega))) (by first | (simp only [packA_t, packA_f, iE, bE, setAt, cellsA, Value.cells, map_vc, map_vn, Nat.reduceAdd, qS] <;> rfl) | rfl)) trivial rfl ?_
                                        refine al_ro' (ro_call (evL_cons up_h evL_nil) rfl (rCopy_ok nm ps (by omega)) k29_hcf21) trivial rfl ?_
                                        refine al_ro' (ro_move (u2 rfl s8_55)) trivial rfl ?_
                                        refine al_ro' (ro_call (evL_cons up_h evL_nil) rfl (copyInts_ok (fasW ps b v e0 e1).1 (by omega)) k29_hcf23) trivial rfl ?_
                                        refine al_ro' (ro_call (evL_cons (u2 rfl up_h) (evL_cons up_h evL_nil)) rfl (timeOf0_ok hs hp (by omega) h1 hA.2.1) k29_hcf25) trivial rfl ?_
                                        refine al_ro' (ro_move up_h) trivial rfl ?_
                                        refine al_ro' (ro_extract up_h rfl) trivial rfl ?_
                                        refine al_ro' (ro_extract (up_m rfl up_h) rfl) trivial rfl ?_
                                        refine al_stm (st_alloc k29_az42 rfl ml_54) trivial rfl (fun m_64 hm_64 => ?_)
                                        have mo3_64 := m_push hm_64 ml_54
                                        (try simp only [packA_t, packA_f, iE, bE, setAt, cellsA, Value.cells, map_vc, map_vn, Nat.reduceAdd, qS] at mo3_64)
                                        have mo2_64 := m_push_o hm_64 mo2_54
                                        have mo1_64 := m_push_o hm_64 mo1_54
                                        have mo0_64 := m_push_o hm_64 mo0_54
                                        have ml_64 := m_push_l hm_64 ml_54
                                        have ml_64 : _ = 4 := ml_64
                                        clear hm_64 mo2_54 mo1_54 mo0_54
                                        refine al_stm (st_store up_h (u2 rfl up_h) rfl rfl mo3_64 k29_sz42 rfl (by first | exact Nat.le_of_ble_eq_true rfl | omega | (simp only [lnS] <;> omega) | (simp <;> omega))) trivial rfl (fun m_65 hm_65 => ?_)
                                        have mo3_65 := m_set hm_65 mo3_64
                                        (try simp only [packA_t, packA_f, iE, bE, setAt, cellsA, Value.cells, map_vc, map_vn, Nat.reduceAdd, qS] at mo3_65)
                                        have mo2_65 := m_set_o hm_65 mo2_64 (by decide)
                                        have mo1_65 := m_set_o hm_65 mo1_64 (by decide)
                                        have mo0_65 := m_set_o hm_65 mo0_64 (by decide)
                                        have ml_65 := m_set_l hm_65 ml_64
                                        clear hm_65 mo3_64 mo2_64 mo1_64 mo0_64
                                        refine al_ro' (ro_assign (up_n (up_m rfl up_h))) trivial rfl ?_
                                        refine al_end (fun e_66 he_66 => ?_)
                                        have s3_66 := ef 3 he_66 (up_m rfl (up_n (up_m rfl (u8 rfl s3_55))))
                                        have s4_66 := ef 4 he_66 (up_m rfl (up_n (up_m rfl (u8 rfl s4_55))))
                                        have s5_66 := ef 5 he_66 (up_m rfl (up_n (up_m rfl (u8 rfl s5_55))))
                                        have s7_66 := ef 7 he_66 (up_m rfl (up_n (up_m rfl (u8 rfl s7_55))))
                                        have s8_66 := ef 8 he_66 (up_m rfl (up_n (up_m rfl (u8 rfl s8_55))))
                                        have s16_66 := ef 16 he_66 (up_m rfl (up_n up_h))
                                        have s17_66 := ef 17 he_66 up_h
                                        clear he_66 s10_55 s15_55 s165_55 s3_55 s4_55 s5_55 s7_55 s8_55
                                        refine then_n ?_
                                        refine aw_seq ?_
                                        refine aw_drawK 11 1 ml_65 (by kernel_rfl) (by kernel_rfl) (by kernel_rfl) (by kernel_rfl) (fun m_67 hm_67 => ?_)
                                        have mo3_67 := m_room_o hm_67 mo3_65
                                        have mo2_67 := m_room_o hm_67 mo2_65
                                        have mo1_67 := m_room_o hm_67 mo1_65
                                        have mo0_67 := m_room_o hm_67 mo0_65
                                        have mo4_67 : m_67[4]? = _ := m_room_g hm_67 ml_65 0 rfl rfl
                                        have ml_67 : _ = 5 := m_room_l hm_67 ml_65
                                        clear hm_67 mo3_65 mo2_65 mo1_65 mo0_65 ml_65
                                        refine dh_ld (0) (fun M_ hM_ => (ro_eq (ro_ld_ptr k29_ty51 rfl (agr hM_ mo0_67 (by simp)) s3_66 (by first | exact Nat.le_of_ble_eq_true rfl | omega | (simp only [lnS] <;> omega) | (simp <;> omega))) (by first | (simp only [packA_t, packA_f, iE, bE, setAt, cellsA, Value.cells, map_vc, map_vn, Nat.reduceAdd, qS] <;> rfl) | rfl))) trivial trivial ?_
                                        refine dh_ro (fun M_ hM_ => (ro_call (evL_cons up_h evL_nil) rfl (rCopy_ok nm ps (by omega)) k29_hcf21)) trivial ?_
                                        refine dh_ro (fun M_ hM_ => (ro_fld_ptr k29_fl56_1 rfl (u2 rfl s5_66))) trivial ?_
                                        refine dh_ld (2) (fun M_ hM_ => (ro_eq (ro_ld_ptr k29_ty22 rfl (agr hM_ mo2_67 (by simp)) up_h (by first | exact Nat.le_of_ble_eq_true rfl | omega | (simp only [lnS] <;> omega) | (simp <;> omega))) (by first | (simp only [packA_t, packA_f, iE, bE, setAt, cellsA, Value.cells, map_vc, map_vn, Nat.reduceAdd, qS] <;> rfl) | rfl))) trivial trivial ?_
                                        refine dh_ro (fun M_ hM_ => (ro_call (evL_cons up_h evL_nil) rfl (copyInts_ok xs (by omega)) k29_hcf23)) trivial ?_
                                        refine dh_ro (fun M_ hM_ => (ro_call (evL_cons (up_m rfl (u2 rfl up_h)) (evL_cons up_h evL_nil)) rfl (timeOf0_ok hs hp (by omega) h1 hx1) k29_hcf25)) trivial ?_
                                        refine dh_ro (fun M_ hM_ => (ro_move up_h)) trivial ?_
                                        refine dh_ro (fun M_ hM_ => (ro_extract up_h rfl)) trivial ?_
                                        refine dh_ro (fun M_ hM_ => (ro_extract (up_m rfl up_h) rfl)) trivial ?_
                                        refine dh_nw (4) (fun M_ hM_ => (nw_alloc k29_az42 rfl)) trivial mo4_67 rfl trivial ⟨.inl (by simp <;> omega), ⟨.inl (by simp <;> omega), trivial⟩⟩ (fun m_68 hm_68 => ?_)
                                        have mo4_68 := m_set hm_68 mo4_67
                                        (try simp only [packA_t, packA_f, iE, bE, setAt, cellsA, Value.cells, map_vc, map_vn, Nat.reduceAdd, qS] at mo4_68)
                                        have mo3_68 := m_set_o hm_68 mo3_67 (by decide)
                                        have mo2_68 := m_set_o hm_68 mo2_67 (by decide)
                                        have mo1_68 := m_set_o hm_68 mo1_67 (by decide)
                                        have mo0_68 := m_set_o hm_68 mo0_67 (by decide)
                                        have ml_68 := m_set_l hm_68 ml_67
                                        clear hm_68 mo3_67 mo2_67 mo1_67 mo0_67 mo4_67
                                        refine dh_set (4) (fun M_ hM_ => (se_store up_h (u2 rfl up_h) rfl rfl (agr hM_ mo4_68 (by simp)) k29_sz42 rfl (by first | exact Nat.le_of_ble_eq_true rfl | omega | (simp only [lnS] <;> omega) | (simp <;> omega)))) trivial ⟨.inr (wt_one 10 9 (by kernel_rfl)), trivial⟩ ⟨.inl (by simp <;> omega), ⟨.inl (by simp <;> omega), ⟨.inr (wt_one 10 9 (by kernel_rfl)), trivial⟩⟩⟩ (fun m_69 hm_69 => ?_)
                                        have mo4_69 := m_set hm_69 mo4_68
                                        (try simp only [packA_t, packA_f, iE, bE, setAt, cellsA, Value.cells, map_vc, map_vn, Nat.reduceAdd, qS] at mo4_69)
                                        have mo3_69 := m_set_o hm_69 mo3_68 (by decide)
                                        have mo2_69 := m_set_o hm_69 mo2_68 (by decide)
                                        have mo1_69 := m_set_o hm_69 mo1_68 (by decide)
                                        have mo0_69 := m_set_o hm_69 mo0_68 (by decide)
                                        have ml_69 := m_set_l hm_69 ml_68
                                        clear hm_69 mo4_68 mo3_68 mo2_68 mo1_68 mo0_68
                                        refine dh_nil rfl ?_
                                        refine al_ro' (ro_assign (up_n (up_m rfl up_h))) trivial rfl ?_
                                        refine al_end (fun e_70 he_70 => ?_)
                                        have s3_70 := ef 3 he_70 (up_m rfl (up_n (u2 rfl (u8 rfl s3_66))))
                                        have s4_70 := ef 4 he_70 (up_m rfl (up_n (u2 rfl (u8 rfl s4_66))))
                                        have s5_70 := ef 5 he_70 (up_m rfl (up_n (u2 rfl (u8 rfl s5_66))))
                                        have s7_70 := ef 7 he_70 (up_m rfl (up_n (u2 rfl (u8 rfl s7_66))))
                                        have s8_70 := ef 8 he_70 (up_m rfl (up_n (u2 rfl (u8 rfl s8_66))))
                                        have s16_70 := ef 16 he_70 (up_m rfl (up_n (u2 rfl (u8 rfl s16_66))))
                                        have s17_70 := ef 17 he_70 (up_m rfl (up_n (u2 rfl (u8 rfl s17_66))))
                                        have s18_70 := ef 18 he_70 (up_m rfl (up_n up_h))
                                        have s19_70 := ef 19 he_70 up_h
                                        clear he_70 s16_66 s17_66 s3_66 s4_66 s5_66 s7_66 s8_66
                                        refine then_n ?_
                                        refine aw_seq ?_
                                        refine aw_cut (fun e mem => (evA e (.tmp 218) = .v (.bool false)) ∧ (evA e (.tmp 3) = evA e_70 (.tmp 3)) ∧ (evA e (.tmp 4) = evA e_70 (.tmp 4)) ∧ (evA e (.tmp 5) = evA e_70 (.tmp 5)) ∧ (evA e (.tmp 7) = evA e_70 (.tmp 7)) ∧ (evA e (.tmp 8) = evA e_70 (.tmp 8)) ∧ m_69 = mem) ?_ ?_
                                        ·
                                          refine aw_text (by kernel_rfl) ?_
                                          refine al_ro' (ro_move s19_70) trivial rfl ?_
                                          refine al_ro' (ro_eql up_h ev_c) trivial rfl ?_
                                          refine al_ro' (ro_move up_h) trivial rfl ?_
                                          refine al_case up_h (fun hb_72 hq_72 => ?_) (fun hb_72 hq_72 => ?_)
                                          · (first | replace hq_72 := bnt hq_72 | replace hq_72 := bnf hq_72 | replace hq_72 := bt hq_72 | replace hq_72 := bf hq_72 | replace hq_72 := bt' hq_72 | replace hq_72 := bf' hq_72 | skip)
                                            first
                                            | (cases hq_72; done) | (exfalso; omega)
                                            | (
                                               refine al_ro' (ro_move (up_m rfl (u2 rfl s17_70))) ⟨_, rfl, hb_72⟩ rfl ?_
                                               refine al_ro' (ro_neq up_h ev_c) ⟨_, rfl, (up_m rfl hb_72)⟩ rfl ?_
                                               refine al_ro' (ro_move up_h) ⟨_, rfl, (u2 rfl hb_72)⟩ rfl ?_
                                               refine al_case up_h (fun hb_73 hq_73 => ?_) (fun hb_73 hq_73 => ?_)
                                               · (first | replace hq_73 := bnt hq_73 | replace hq_73 := bnf hq_73 | replace hq_73 := bt hq_73 | replace hq_73 := bf hq_73 | replace hq_73 := bt' hq_73 | replace hq_73 := bf' hq_73 | skip)
                                                 first
                                                 | (cases hq_73; done) | (exfalso; omega)
                                                 | (
                                                    refine al_skip' ⟨_, rfl, .inl hb_73⟩ rfl ?_
                                                    refine al_skip' ⟨_, rfl, .inl (up_m rfl hb_73)⟩ rfl ?_
                                                    refine al_skip' ⟨_, rfl, .inl (u2 rfl hb_73)⟩ rfl ?_
                                                    refine al_skip' ⟨_, rfl, .inl (up_m rfl (u2 rfl hb_73))⟩ rfl ?_
                                                    refine al_skip' ⟨_, rfl, .inl (u4 rfl hb_73)⟩ rfl ?_
                                                    refine al_ro' (ro_pickT (up_m rfl (u4 rfl hb_73)) ev_c) ⟨_, rfl, (u8 rfl hb_72)⟩ rfl ?_
                                                    refine al_ro' (ro_move up_h) ⟨_, rfl, (up_m rfl (u8 rfl hb_72))⟩ rfl ?_
                                                    refine al_skip' ⟨_, rfl, .inl up_h⟩ rfl ?_
                                                    refine al_skip' ⟨_, rfl, .inl (up_m rfl up_h)⟩ rfl ?_
                                                    refine al_skip' ⟨_, rfl, .inl (u2 rfl up_h)⟩ rfl ?_
                                                    refine al_skip' ⟨_, rfl, .inl (up_m rfl (u2 rfl up_h))⟩ rfl ?_
                                                    refine al_skip' ⟨_, rfl, .inl (u4 rfl up_h)⟩ rfl ?_
                                                    refine al_ro' (ro_pickT (up_m rfl (u4 rfl up_h)) ev_c) ⟨_, rfl, (up_m rfl (u2 rfl (u4 rfl (u8 rfl hb_72))))⟩ rfl ?_
                                                    refine al_ro' (ro_pickT (u16 rfl hb_72) up_h) trivial rfl ?_
                                                    refine al_end (fun e_74 he_74 => ?_)
                                                    have s3_74 := ef 3 he_74 (u4 rfl (u16 rfl s3_70))
                                                    have s4_74 := ef 4 he_74 (u4 rfl (u16 rfl s4_70))
                                                    have s5_74 := ef 5 he_74 (u4 rfl (u16 rfl s5_70))
                                                    have s7_74 := ef 7 he_74 (u4 rfl (u16 rfl s7_70))
                                                    have s8_74 := ef 8 he_74 (u4 rfl (u16 rfl s8_70))
                                                    have s218_74 := ef 218 he_74 up_h
                                                    clear he_74
                                                    refine then_n ⟨(s218_74).trans (by (first | rfl | (refine avb ?_; simp only [decide_eq_true_eq, Bool.false_eq_true, true_iff, false_iff, iff_false, iff_true]; omega))), (s3_74).trans (s3_70).symm, (s4_74).trans (s4_70).symm, (s5_74).trans (s5_70).symm, (s7_74).trans (s7_70).symm, (s8_74).trans (s8_70).symm, rfl⟩)
                                               · (first | replace hq_73 := bnt hq_73 | replace hq_73 := bnf hq_73 | replace hq_73 := bt hq_73 | replace hq_73 := bf hq_73 | replace hq_73 := bt' hq_73 | replace hq_73 := bf' hq_73 | skip)
                                                 first
                                                 | (cases hq_73; done) | (exfalso; omega)
                                                 | (
                                                    refine al_ro' (ro_fld_ptr k29_fl42_0 rfl (u2 rfl (u4 rfl s16_70))) ⟨_, rfl, hb_73⟩ rfl ?_
                                                    refine al_ro' (ro_eq (ro_ld_ptr k29_ty3 rfl mo3_69 up_h (by first | exact Nat.le_of_ble_eq_true rfl | omega | (simp only [lnS] <;> omega) | (simp <;> omega))) (by first | (simp only [packA_t, packA_f, iE, bE, setAt, cellsA, Value.cells, map_vc, map_vn, Nat.reduceAdd, qS] <;> rfl) | rfl)) ⟨_, rfl, (up_m rfl hb_73)⟩ rfl ?_
                                                    refine al_ro' (ro_fld_ptr k29_fl42_0 rfl (u8 rfl s18_70)) ⟨_, rfl, (u2 rfl hb_73)⟩ rfl ?_
                                                    refine al_ro' (ro_eq (ro_ld_ptr k29_ty3 rfl mo4_69 up_h (by first | exact Nat.le_of_ble_eq_true rfl | omega | (simp only [lnS] <;> omega) | (simp <;> omega))) (by first | (simp only [packA_t, packA_f, iE, bE, setAt, cellsA, Value.cells, map_vc, map_vn, Nat.reduceAdd, qS] <;> rfl) | rfl)) ⟨_, rfl, (up_m rfl (u2 rfl hb_73))⟩ rfl ?_
                                                    refine al_ro' (ro_gtr (u2 rfl up_h) up_h) ⟨_, rfl, (u4 rfl hb_73)⟩ rfl ?_
                                                    refine al_ro' (ro_pickF (up_m rfl (u4 rfl hb_73)) up_h) ⟨_, rfl, (u8 rfl hb_72)⟩ rfl ?_
                                                    refine al_ro' (ro_move up_h) ⟨_, rfl, (up_m rfl (u8 rfl hb_72))⟩ rfl ?_
                                                    refine al_case up_h (fun hb_75 hq_75 => ?_) (fun hb_75 hq_75 => ?_)
                                                    · (first | replace hq_75 := bnt hq_75 | replace hq_75 := bnf hq_75 | replace hq_75 := bt hq_75 | replace hq_75 := bf hq_75 | replace hq_75 := bt' hq_75 | replace hq_75 := bf' hq_75 | skip)
                                                      first
                                                      | (cases hq_75; done) | (exfalso; omega)
                                                      | (
                                                         refine al_skip' ⟨_, rfl, .inl hb_75⟩ rfl ?_
                                                         refine al_skip' ⟨_, rfl, .inl (up_m rfl hb_75)⟩ rfl ?_
                                                         refine al_skip' ⟨_, rfl, .inl (u2 rfl hb_75)⟩ rfl ?_
                                                         refine al_skip' ⟨_, rfl, .inl (up_m rfl (u2 rfl hb_75))⟩ rfl ?_
                                                         refine al_skip' ⟨_, rfl, .inl (u4 rfl hb_75)⟩ rfl ?_
                                                         refine al_ro' (ro_pickT (up_m rfl (u4 rfl hb_75)) ev_c) ⟨_, rfl, (up_m rfl (u2 rfl (u4 rfl (u8 rfl hb_72))))⟩ rfl ?_
                                                         refine al_ro' (ro_pickT (u16 rfl hb_72) up_h) trivial rfl ?_
                                                         refine al_end (fun e_76 he_76 => ?_)
                                                         have s3_76 := ef 3 he_76 (u4 rfl (u16 rfl s3_70))
                                                         have s4_76 := ef 4 he_76 (u4 rfl (u16 rfl s4_70))
                                                         have s5_76 := ef 5 he_76 (u4 rfl (u16 rfl s5_70))
                                                         have s7_76 := ef 7 he_76 (u4 rfl (u16 rfl s7_70))
                                                         have s8_76 := ef 8 he_76 (u4 rfl (u16 rfl s8_70))
                                                         have s218_76 := ef 218 he_76 up_h
                                                         clear he_76
                                                         refine then_n ⟨(s218_76).trans (by (first | rfl | (refine avb ?_; simp only [decide_eq_true_eq, Bool.false_eq_true, true_iff, false_iff, iff_false, iff_true]; omega))), (s3_76).trans (s3_70).symm, (s4_76).trans (s4_70).symm, (s5_76).trans (s5_70).symm, (s7_76).trans (s7_70).symm, (s8_76).trans (s8_70).symm, rfl⟩)
                                                    · (first | replace hq_75 := bnt hq_75 | replace hq_75 := bnf hq_75 | replace hq_75 := bt hq_75 | replace hq_75 := bf hq_75 | replace hq_75 := bt' hq_75 | replace hq_75 := bf' hq_75 | skip)
                                                      first
                                                      | (cases hq_75; done) | (exfalso; omega)
                                                      | (
                                                         refine al_ro' (ro_fld_ptr k29_fl42_1 rfl (up_m rfl (u4 rfl (u8 rfl s16_70)))) ⟨_, rfl, hb_75⟩ rfl ?_
                                                         refine al_ro' (ro_eq (ro_ld_ptr k29_ty3 rfl mo3_69 up_h (by first | exact Nat.le_of_ble_eq_true rfl | omega | (simp only [lnS] <;> omega) | (simp <;> omega))) (by first | (simp only [packA_t, packA_f, iE, bE, setAt, cellsA, Value.cells, map_vc, map_vn, Nat.reduceAdd, qS] <;> rfl) | rfl)) ⟨_, rfl, (up_m rfl hb_75)⟩ rfl ?_
                                                         refine al_ro' (ro_fld_ptr k29_fl42_1 rfl (up_m rfl (u2 rfl (u4 rfl (u8 rfl s18_70))))) ⟨_, rfl, (u2 rfl hb_75)⟩ rfl ?_
                                                         refine al_ro' (ro_eq (ro_ld_ptr k29_ty3 rfl mo4_69 up_h (by first | exact Nat.le_of_ble_eq_true rfl | omega | (simp only [lnS] <;> omega) | (simp <;> omega))) (by first | (simp only [packA_t, packA_f, iE, bE, setAt, cellsA, Value.cells, map_vc, map_vn, Nat.reduceAdd, qS] <;> rfl) | rfl)) ⟨_, rfl, (up_m rfl (u2 rfl hb_75))⟩ rfl ?_
                                                         refine al_ro' (ro_gtr (u2 rfl up_h) up_h) ⟨_, rfl, (u4 rfl hb_75)⟩ rfl ?_
                                                         refine al_ro' (ro_pickF (up_m rfl (u4 rfl hb_75)) up_h) ⟨_, rfl, (up_m rfl (u2 rfl (u4 rfl (u8 rfl hb_72))))⟩ rfl ?_
                                                         refine al_ro' (ro_pickT (u16 rfl hb_72) up_h) trivial rfl ?_
                                                         refine al_end (fun e_77 he_77 => ?_)
                                                         have s3_77 := ef 3 he_77 (u4 rfl (u16 rfl s3_70))
                                                         have s4_77 := ef 4 he_77 (u4 rfl (u16 rfl s4_70))
                                                         have s5_77 := ef 5 he_77 (u4 rfl (u16 rfl s5_70))
                                                         have s7_77 := ef 7 he_77 (u4 rfl (u16 rfl s7_70))
                                                         have s8_77 := ef 8 he_77 (u4 rfl (u16 rfl s8_70))
                                                         have s218_77 := ef 218 he_77 up_h
                                                         clear he_77
                                                         refine then_n ⟨(s218_77).trans (by (first | rfl | (refine avb ?_; simp only [decide_eq_true_eq, Bool.false_eq_true, true_iff, false_iff, iff_false, iff_true]; omega))), (s3_77).trans (s3_70).symm, (s4_77).trans (s4_70).symm, (s5_77).trans (s5_70).symm, (s7_77).trans (s7_70).symm, (s8_77).trans (s8_70).symm, rfl⟩)))
                                          · (first | replace hq_72 := bnt hq_72 | replace hq_72 := bnf hq_72 | replace hq_72 := bt hq_72 | replace hq_72 := bf hq_72 | replace hq_72 := bt' hq_72 | replace hq_72 := bf' hq_72 | skip)
                                            first
                                            | (cases hq_72; done) | (exfalso; omega)
                                            | (
                                               refine al_skip' ⟨_, rfl, .inl hb_72⟩ rfl ?_
                                               refine al_skip' ⟨_, rfl, .inl (up_m rfl hb_72)⟩ rfl ?_
                                               refine al_skip' ⟨_, rfl, .inl (u2 rfl hb_72)⟩ rfl ?_
                                               refine al_skip' ⟨_, rfl, .inr up_h⟩ rfl ?_
                                               refine al_skip' ⟨_, rfl, .inr (up_m rfl up_h)⟩ rfl ?_
                                               refine al_skip' ⟨_, rfl, .inr (u2 rfl up_h)⟩ rfl ?_
                                               refine al_skip' ⟨_, rfl, .inr (up_m rfl (u2 rfl up_h))⟩ rfl ?_
                                               refine al_skip' ⟨_, rfl, .inr (u4 rfl up_h)⟩ rfl ?_
                                               refine al_skip' ⟨_, rfl, .inl (u8 rfl hb_72)⟩ rfl ?_
                                               refine al_skip' ⟨_, rfl, .inl (up_m rfl (u8 rfl hb_72))⟩ rfl ?_
                                               refine al_skip' ⟨_, rfl, .inr up_h⟩ rfl ?_
                                               refine al_skip' ⟨_, rfl, .inr (up_m rfl up_h)⟩ rfl ?_
                                               refine al_skip' ⟨_, rfl, .inr (u2 rfl up_h)⟩ rfl ?_
                                               refine al_skip' ⟨_, rfl, .inr (up_m rfl (u2 rfl up_h))⟩ rfl ?_
                                               refine al_skip' ⟨_, rfl, .inr (u4 rfl up_h)⟩ rfl ?_
                                               refine al_skip' ⟨_, rfl, .inl (up_m rfl (u2 rfl (u4 rfl (u8 rfl hb_72))))⟩ rfl ?_
                                               refine al_ro' (ro_pickF (u16 rfl hb_72) ev_c) trivial rfl ?_
                                               refine al_end (fun e_78 he_78 => ?_)
                                               have s3_78 := ef 3 he_78 (u4 rfl (u16 rfl s3_70))
                                               have s4_78 := ef 4 he_78 (u4 rfl (u16 rfl s4_70))
                                               have s5_78 := ef 5 he_78 (u4 rfl (u16 rfl s5_70))
                                               have s7_78 := ef 7 he_78 (u4 rfl (u16 rfl s7_70))
                                               have s8_78 := ef 8 he_78 (u4 rfl (u16 rfl s8_70))
                                               have s218_78 := ef 218 he_78 up_h
                                               clear he_78
                                               refine then_n ⟨(s218_78).trans (by (first | rfl | (refine avb ?_; simp only [decide_eq_true_eq, Bool.false_eq_true, true_iff, false_iff, iff_false, iff_true]; omega))), (s3_78).trans (s3_70).symm, (s4_78).trans (s4_70).symm, (s5_78).trans (s5_70).symm, (s7_78).trans (s7_70).symm, (s8_78).trans (s8_70).symm, rfl⟩)
                                        · rintro e_71 _ ⟨s218_71, k3_71, k4_71, k5_71, k7_71, k8_71, rfl⟩
                                          have s3_71 := k3_71.trans s3_70
                                          have s4_71 := k4_71.trans s4_70
                                          have s5_71 := k5_71.trans s5_70
                                          have s7_71 := k7_71.trans s7_70
                                          have s8_71 := k8_71.trans s8_70
                                          refine aw_case s218_71 (fun hq_79 => ?_) (fun hq_79 => ?_)
                                          · (first | replace hq_79 := bnt hq_79 | replace hq_79 := bnf hq_79 | replace hq_79 := bt hq_79 | replace hq_79 := bf hq_79 | replace hq_79 := bt' hq_79 | replace hq_79 := bf' hq_79 | skip)
                                            first
                                            | (cases hq_79; done) | (exfalso; omega)
                                            | (
                                               refine aw_seq ?_
                                               refine aw_text (by kernel_rfl) ?_
                                               refine al_ro' (ro_assign ev_c) trivial rfl ?_
                                               refine al_end (fun e_80 he_80 => ?_)
                                               have s6_80 := ef 6 he_80 up_h
                                               clear he_80 s218_71 s3_71 s4_71 s5_71 s7_71 s8_71
                                               refine then_n ?_
                                               refine aw_ret ?_
                                               refine then_r ?_
                                               refine ret1 (.inr rfl) (by kernel_rfl) (resV_tmp s6_80) (.ro _ rfl) ?_
                                               clear s6_80 mo4_69 mo3_69 mo2_69 mo1_69 mo0_69 ml_69
                                               (first | rfl | (exfalso; omega) | (simp; done) | (simp [h12, hnr]; done)))
                                          · (first | replace hq_79 := bnt hq_79 | replace hq_79 := bnf hq_79 | replace hq_79 := bt hq_79 | replace hq_79 := bf hq_79 | replace hq_79 := bt' hq_79 | replace hq_79 := bf' hq_79 | skip)
                                            first
                                            | (cases hq_79; done) | (exfalso; omega)
                                            | (
                                               refine aw_skip ?_
                                               refine then_n ?_
                                               refine aw_seq ?_
                                               refine aw_draw 21 (by kernel_rfl) (by kernel_rfl) (by kernel_rfl) (by kernel_rfl) ?_
                                               refine ds_ro' (ro_eq (ro_ld_ptr k29_ty51 rfl mo0_69 s3_71 (by first | exact Nat.le_of_ble_eq_true rfl | omega | (simp only [lnS] <;> omega) | (simp <;> omega))) (by first | (simp only [packA_t, packA_f, iE, bE, setAt, cellsA, Value.cells, map_vc, map_vn, Nat.reduceAdd, qS] <;> rfl) | rfl)) trivial rfl ?_
                                               refine ds_ro' (ro_call (evL_cons up_h evL_nil) rfl (rCopy_ok nm ps (by omega)) k29_hcf21) trivial rfl ?_
                                               refine ds_ro' (ro_eq (ro_ld_ptr k29_ty53 rfl mo1_69 (u2 rfl s4_71) (by first | exact Nat.le_of_ble_eq_true rfl | omega | (simp only [lnS] <;> omega) | (simp <;> omega))) (by first | (simp only [packA_t, packA_f, iE, bE, setAt, cellsA, Value.cells, map_vc, map_vn, Nat.reduceAdd, qS] <;> rfl) | rfl)) trivial rfl ?_
                                               refine ds_ro' (ro_fld_ptr k29_fl56_0 rfl (up_m rfl (u2 rfl s5_71))) trivial rfl ?_
                                               refine ds_ro' (ro_ixa k29_ar54 up_h ev_c rfl) trivial rfl ?_
                                               refine ds_ro' (ro_eq (ro_ld_ptr k29_ty3 rfl mo2_69 up_h (by first | exact Nat.le_of_ble_eq_true rfl | omega | (simp only [lnS] <;> omega) | (simp <;> omega))) (by first | (simp only [packA_t, packA_f, iE, bE, setAt, cellsA, Value.cells, map_vc, map_vn, Nat.reduceAdd, qS] <;> rfl) | rfl)) trivial rfl ?_
                                               refine ds_ro' (ro_fld_ptr k29_fl56_0 rfl (u2 rfl (u4 rfl s5_71))) trivial rfl ?_
                                               refine ds_ro' (ro_ixa k29_ar54 up_h ev_c rfl) trivial rfl ?_
                                               refine ds_ro' (ro_eq (ro_ld_ptr k29_ty3 rfl mo2_69 up_h (by first | exact Nat.le_of_ble_eq_true rfl | omega | (simp only [lnS] <;> omega) | (simp <;> omega))) (by first | (simp only [packA_t, packA_f, iE, bE, setAt, cellsA, Value.cells, map_vc, map_vn, Nat.reduceAdd, qS] <;> rfl) | rfl)) trivial rfl ?_
                                               refine ds_ro' (ro_fld_ptr k29_fl56_2 rfl (up_m rfl (u8 rfl s5_71))) trivial rfl ?_
                                               refine ds_ro' (ro_eq (ro_ld_ptr k29_ty3 rfl mo2_69 up_h (by first | exact Nat.le_of_ble_eq_true rfl | omega | (simp only [lnS] <;> omega) | (simp <;> omega))) (by first | (simp only [packA_t, packA_f, iE, bE, setAt, cellsA, Value.cells, map_vc, map_vn, Nat.reduceAdd, qS] <;> rfl) | rfl)) trivial rfl ?_
                                               refine ds_ro' (ro_call (evL_cons up_h (evL_cons ev_c evL_nil)) rfl (bMod_ok more 100000 ⟨by omega, by omega⟩) k29_hcf26) trivial rfl ?_
                                               first | (refine ds_ro' (ro_add' (up_m rfl (u2 rfl up_h)) up_h ?_) trivial rfl ?_; · (unfold In64; omega)) | refine ds_ro' (ro_add (up_m rfl (u2 rfl up_h)) up_h) trivial rfl ?_
                                               refine ds_ro' (ro_min ev_c up_h) trivial rfl ?_
                                               refine ds_ro' (ro_buildA (evP_cons (u8 rfl up_h) (evP_cons up_h evP_nil)) k29_bz54 k29_bu54 k29_bp54 rfl) trivial rfl ?_
                                               refine ds_ro' (ro_call (evL_cons (up_m rfl (u4 rfl (u8 rfl up_h))) (evL_cons (u4 rfl (u8 rfl up_h)) (evL_cons up_h evL_nil))) rfl (fastest0_ok hs hp h0 he0 (e1 := min 20000000000 (e1 + more % 100000)) (by omega)) k29_hcf20) trivial rfl ?_
                                               refine ds_ro' (ro_move up_h) trivial rfl ?_
                                               refine ds_ro' (ro_extract up_h rfl) trivial rfl ?_
                                               refine ds_ro' (ro_extract (up_m rfl up_h) rfl) trivial rfl ?_
                                               refine ds_ro' (ro_assign (up_m rfl up_h)) trivial rfl ?_
                                               refine ds_ro' (ro_assign (up_m rfl up_h)) trivial rfl ?_
                                               refine ds_nil ?_
                                               refine al_end (fun e_81 he_81 => ?_)
                                               have s7_81 := ef 7 he_81 (up_m rfl (u4 rfl (u16 rfl s7_71)))
                                               have s8_81 := ef 8 he_81 (up_m rfl (u4 rfl (u16 rfl s8_71)))
                                               have s20_81 := ef 20 he_81 (up_m rfl up_h)
                                               have s21_81 := ef 21 he_81 up_h
                                               clear he_81 s218_71 s3_71 s4_71 s5_71 s7_71 s8_71
                                               refine then_n ?_
                                               refine aw_seq ?_
                                               refine aw_seq ?_
                                               refine aw_text (by kernel_rfl) ?_
                                               refine al_ro' (ro_move s21_81) trivial rfl ?_
                                               refine al_ro' (ro_neq up_h ev_c) trivial rfl ?_
                                               refine al_ro' (ro_move up_h) trivial rfl ?_
                                               refine al_case up_h (fun hb_82 hq_82 => ?_) (fun hb_82 hq_82 => ?_)
                                               · (first | replace hq_82 := bnt hq_82 | replace hq_82 := bnf hq_82 | replace hq_82 := bt hq_82 | replace hq_82 := bf hq_82 | replace hq_82 := bt' hq_82 | replace hq_82 := bf' hq_82 | skip)
                                                 first
                                                 | (cases hq_82; done) | (exfalso; omega)
                                                 | (
                                                    refine al_skip' ⟨_, rfl, .inl hb_82⟩ rfl ?_
                                                    refine al_skip' ⟨_, rfl, .inl (up_m rfl hb_82)⟩ rfl ?_
                                                    refine al_skip' ⟨_, rfl, .inl (u2 rfl hb_82)⟩ rfl ?_
                                                    refine al_skip' ⟨_, rfl, .inl (up_m rfl (u2 rfl hb_82))⟩ rfl ?_
                                                    refine al_skip' ⟨_, rfl, .inl (u4 rfl hb_82)⟩ rfl ?_
                                                    refine al_ro' (ro_pickT (up_m rfl (u4 rfl hb_82)) ev_c) trivial rfl ?_
                                                    refine al_end (fun e_83 he_83 => ?_)
                                                    have s7_83 := ef 7 he_83 (up_m rfl (u8 rfl s7_81))
                                                    have s8_83 := ef 8 he_83 (up_m rfl (u8 rfl s8_81))
                                                    have s20_83 := ef 20 he_83 (up_m rfl (u8 rfl s20_81))
                                                    have s246_83 := ef 246 he_83 up_h
                                                    clear he_83 hb_82 s20_81 s21_81 s7_81 s8_81
                                                    refine then_n ?_
                                                    refine aw_true s246_83 ?_
                                                    refine aw_seq ?_
                                                    refine aw_text (by kernel_rfl) ?_
                                                    refine al_ro' (ro_assign ev_c) trivial rfl ?_
                                                    refine al_end (fun e_85 he_85 => ?_)
                                                    have s6_85 := ef 6 he_85 up_h
                                                    clear he_85 s20_83 s246_83 s7_83 s8_83
                                                    refine then_n ?_
                                                    refine aw_ret ?_
                                                    refine then_r ?_
                                                    refine ret1 (.inr rfl) (by kernel_rfl) (resV_tmp s6_85) (.ro _ rfl) ?_
                                                    clear s6_85 mo4_69 mo3_69 mo2_69 mo1_69 mo0_69 ml_69
                                                    (first | rfl | (exfalso; omega) | (simp; done) | (simp [h12, hnr]; done)))
                                               · (first | replace hq_82 := bnt hq_82 | replace hq_82 := bnf hq_82 | replace hq_82 := bt hq_82 | replace hq_82 := bf hq_82 | replace hq_82 := bt' hq_82 | replace hq_82 := bf' hq_82 | skip)
                                                 first
                                                 | (cases hq_82; done) | (exfalso; omega)
                                                 | (
                                                    refine al_ro' (ro_move (up_m rfl (u2 rfl s20_81))) ⟨_, rfl, hb_82⟩ rfl ?_
                                                    refine al_ro' (ro_eq (ro_len_row up_h rfl k29_sl22.1) (by first | (simp only [lnS] <;> rfl) | rfl)) ⟨_, rfl, (up_m rfl hb_82)⟩ rfl ?_
                                                    refine al_ro' (ro_move (up_m rfl (u4 rfl s7_81))) ⟨_, rfl, (u2 rfl hb_82)⟩ rfl ?_
                                                    first | (refine al_ro' (ro_add' up_h ev_c ?_) ⟨_, rfl, (up_m rfl (u2 rfl hb_82))⟩ rfl ?_; · (unfold In64; omega)) | refine al_ro' (ro_add up_h ev_c) ⟨_, rfl, (up_m rfl (u2 rfl hb_82))⟩ rfl ?_
                                                    refine al_ro' (ro_neq (u2 rfl up_h) up_h) ⟨_, rfl, (u4 rfl hb_82)⟩ rfl ?_
                                                    refine al_ro' (ro_pickF (up_m rfl (u4 rfl hb_82)) up_h) trivial rfl ?_
                                                    refine al_end (fun e_86 he_86 => ?_)
                                                    have s7_86 := ef 7 he_86 (up_m rfl (u8 rfl s7_81))
                                                    have s8_86 := ef 8 he_86 (up_m rfl (u8 rfl s8_81))
                                                    have s20_86 := ef 20 he_86 (up_m rfl (u8 rfl s20_81))
                                                    have s246_86 := ef 246 he_86 up_h
                                                    clear he_86 hb_82 s20_81 s21_81 s7_81 s8_81
                                                    refine then_n ?_
                                                    refine aw_case s246_86 (fun hq_87 => ?_) (fun hq_87 => ?_)
                                                    · (first | replace hq_87 := bnt hq_87 | replace hq_87 := bnf hq_87 | replace hq_87 := bt hq_87 | replace hq_87 := bf hq_87 | replace hq_87 := bt' hq_87 | replace hq_87 := bf' hq_87 | skip)
                                                      first
                                                      | (cases hq_87; done) | (exfalso; omega)
                                                      | (
                                                         refine aw_seq ?_
                                                         refine aw_text (by kernel_rfl) ?_
                                                         refine al_ro' (ro_assign ev_c) trivial rfl ?_
                                                         refine al_end (fun e_88 he_88 => ?_)
                                                         have s6_88 := ef 6 he_88 up_h
                                                         clear he_88 s20_86 s246_86 s7_86 s8_86
                                                         refine then_n ?_
                                                         refine aw_ret ?_
                                                         refine then_r ?_
                                                         refine ret1 (.inr rfl) (by kernel_rfl) (resV_tmp s6_88) (.ro _ rfl) ?_
                                                         clear s6_88 mo4_69 mo3_69 mo2_69 mo1_69 mo0_69 ml_69
                                                         (first | rfl | (exfalso; omega) | (simp; done) | (simp [h12, hnr]; done)))
                                                    · (first | replace hq_87 := bnt hq_87 | replace hq_87 := bnf hq_87 | replace hq_87 := bt hq_87 | replace hq_87 := bf hq_87 | replace hq_87 := bt' hq_87 | replace hq_87 := bf' hq_87 | skip)
                                                      first
                                                      | (cases hq_87; done) | (exfalso; omega)
                                                      | (
                                                         refine aw_skip ?_
                                                         refine then_n ?_
                                                         refine aw_seq ?_
                                                         refine aw_seq ?_
                                                         refine aw_text (by kernel_rfl) ?_
                                                         refine al_ro' (ro_assign ev_c) trivial rfl ?_
                                                         refine al_end (fun e_89 he_89 => ?_)
                                                         have s7_89 := ef 7 he_89 (up_m rfl s7_86)
                                                         have s8_89 := ef 8 he_89 (up_m rfl s8_86)
                                                         have s20_89 := ef 20 he_89 (up_m rfl s20_86)
                                                         have s22_89 := ef 22 he_89 up_h
                                                         clear he_89 s20_86 s246_86 s7_86 s8_86
                                                         refine then_n ?_
                                                         refine aw_block ?_
                                                         refine aw_loop (S := Int) (fun i e mem => (evA e (.tmp 22) = .v (.int .i64 i)) ∧ (evA e (.tmp 7) = evA e_89 (.tmp 7)) ∧ (evA e (.tmp 8) = evA e_89 (.tmp 8)) ∧ (evA e (.tmp 20) = evA e_89 (.tmp 20)) ∧ (mem[4]? = m_69[4]?) ∧ (mem[3]? = m_69[3]?) ∧ (mem[2]? = m_69[2]?) ∧ (mem[1]? = m_69[1]?) ∧ (mem[0]? = m_69[0]?) ∧ (mem.length = 5) ∧ ((0 ≤ i ∧ i ≤ ps.length + 1))) (fun i => (ps.length + 1 - i).toNat) _ ⟨s22_89, rfl, rfl, rfl, rfl, rfl, rfl, rfl, rfl, ml_69, ?_⟩ ?_
                                                         · (exact ⟨by omega, by omega⟩)
                                                         · rintro i e_90 m_90 ⟨s22_90, k7_90, k8_90, k20_90, mk4_90, mk3_90, mk2_90, mk1_90, mk0_90, ml_90, hinv⟩
                                                           have s7_90 := k7_90.trans s7_89
                                                           have s8_90 := k8_90.trans s8_89
                                                           have s20_90 := k20_90.trans s20_89
                                                           have mo4_90 := mk4_90.trans mo4_69
                                                           have mo3_90 := mk3_90.trans mo3_69
                                                           have mo2_90 := mk2_90.trans mo2_69
                                                           have mo1_90 := mk1_90.trans mo1_69
                                                           have mo0_90 := mk0_90.trans mo0_69
                                                           (obtain ⟨p1, p2⟩ := hinv)
                                                           refine aw_seq ?_
                                                           refine aw_seq ?_
                                                           refine aw_text (by kernel_rfl) ?_
                                                           refine al_ro' (ro_move s22_90) trivial rfl ?_
                                                           refine al_ro' (ro_move (up_m rfl s7_90)) trivial rfl ?_
                                                           refine al_ro' (ro_leq (up_m rfl up_h) up_h) trivial rfl ?_
                                                           refine al_end (fun e_91 he_91 => ?_)
                                                           have s7_91 := ef 7 he_91 (up_m rfl (u2 rfl s7_90))
                                                           have s8_91 := ef 8 he_91 (up_m rfl (u2 rfl s8_90))
                                                           have s20_91 := ef 20 he_91 (up_m rfl (u2 rfl s20_90))
                                                           have s22_91 := ef 22 he_91 (up_m rfl (u2 rfl s22_90))
                                                           have s249_91 := ef 249 he_91 up_h
                                                           clear he_91 s20_90 s22_90 s7_90 s8_90
                                                           refine then_n ?_
                                                           refine aw_case s249_91 (fun hq_92 => ?_) (fun hq_92 => ?_)
                                                           · (first | replace hq_92 := bnt hq_92 | replace hq_92 := bnf hq_92 | replace hq_92 := bt hq_92 | replace hq_92 := bf hq_92 | replace hq_92 := bt' hq_92 | replace hq_92 := bf' hq_92 | skip)
                                                             first
                                                             | (cases hq_92; done) | (exfalso; omega)
                                                             | (
                                                                (have hm2 := hG.2 i.toNat (by omega))
                                                                refine aw_skip ?_
                                                                refine then_n ?_
                                                                refine aw_seq ?_
                                                                refine aw_block ?_
                                                                refine aw_seq ?_
                                                                refine aw_draw 9 (by kernel_rfl) (by kernel_rfl) (by kernel_rfl) (by kernel_rfl) ?_
                                                                refine ds_ro' (ro_move s20_91) trivial rfl ?_
                                                                refine ds_ro' (ro_move (up_m rfl s22_91)) trivial rfl ?_
                                                                refine ds_ro' (ro_eq (ro_ix k29_sl22 (up_m rfl up_h) up_h (by first | decide | omega | (simp <;> omega)) (by first | (refine idx_map ?_; first | omega | (simp only [lnS]; omega)) | (refine idx_mapI ?_; first | omega | (simp only [lnS]; omega)) | (refine idx_mapN ?_; first | omega | (simp only [lnS]; omega)) | rfl)) (by first | (simp only [packA_t, packA_f, iE, bE, setAt, cellsA, Value.cells, map_vc, map_vn, Nat.reduceAdd, qS] <;> rfl) | rfl)) trivial rfl ?_
                                                                refine ds_ro' (ro_eq (ro_ld_ref k29_ty3 rfl up_h (by first | exact Nat.le_of_ble_eq_true rfl | omega | (simp only [lnS] <;> omega) | (simp <;> omega))) (by first | (simp only [packA_t, packA_f, iE, bE, setAt, cellsA, Value.cells, map_vc, map_vn, Nat.reduceAdd, qS] <;> rfl) | rfl)) trivial rfl ?_
                                                                refine ds_ro' (ro_move (u4 rfl s8_91)) trivial rfl ?_
                                                                refine ds_ro' (ro_move (up_m rfl (u4 rfl s22_91))) trivial rfl ?_
                                                                refine ds_ro' (ro_eq (ro_ix k29_sl22 (up_m rfl up_h) up_h (by first | decide | omega | (simp <;> omega)) (by first | (refine idx_map ?_; first | omega | (simp only [lnS]; omega)) | (refine idx_mapI ?_; first | omega | (simp only [lnS]; omega)) | (refine idx_mapN ?_; first | omega | (simp only [lnS]; omega)) | rfl)) (by first | (simp only [packA_t, packA_f, iE, bE, setAt, cellsA, Value.cells, map_vc, map_vn, Nat.reduceAdd, qS] <;> rfl) | rfl)) trivial rfl ?_
                                                                refine ds_ro' (ro_eq (ro_ld_ref k29_ty3 rfl up_h (by first | exact Nat.le_of_ble_eq_true rfl | omega | (simp only [lnS] <;> omega) | (simp <;> omega))) (by first | (simp only [packA_t, packA_f, iE, bE, setAt, cellsA, Value.cells, map_vc, map_vn, Nat.reduceAdd, qS] <;> rfl) | rfl)) trivial rfl ?_
                                                                refine ds_ro' (ro_lss (u4 rfl up_h) up_h) trivial rfl ?_
                                                                refine ds_nil ?_
                                                                refine al_end (fun e_93 he_93 => ?_)
                                                                have s7_93 := ef 7 he_93 (up_m rfl (u8 rfl s7_91))
                                                                have s8_93 := ef 8 he_93 (up_m rfl (u8 rfl s8_91))
                                                                have s20_93 := ef 20 he_93 (up_m rfl (u8 rfl s20_91))
                                                                have s22_93 := ef 22 he_93 (up_m rfl (u8 rfl s22_91))
                                                                have s260_93 := ef 260 he_93 up_h
                                                                clear he_93 s20_91 s22_91 s249_91 s7_91 s8_91
                                                                refine then_n ?_
                                                                refine aw_case s260_93 (fun hq_94 => ?_) (fun hq_94 => ?_)
                                                                · (first | replace hq_94 := bnt hq_94 | replace hq_94 := bnf hq_94 | replace hq_94 := bt hq_94 | replace hq_94 := bf hq_94 | replace hq_94 := bt' hq_94 | replace hq_94 := bf' hq_94 | skip)
                                                                  first
                                                                  | (cases hq_94; done) | (exfalso; omega)
                                                                  | (
                                                                     refine aw_seq ?_
                                                                     refine aw_text (by kernel_rfl) ?_
                                                                     refine al_ro' (ro_assign ev_c) trivial rfl ?_
                                                                     refine al_end (fun e_95 he_95 => ?_)
                                                                     have s6_95 := ef 6 he_95 up_h
                                                                     clear he_95 s20_93 s22_93 s260_93 s7_93 s8_93
                                                                     refine then_n ?_
                                                                     refine aw_ret ?_
                                                                     refine block_r ?_
                                                                     refine then_r ?_
                                                                     refine then_r ?_
                                                                     refine block_r ?_
                                                                     refine then_r ?_
                                                                     refine ret1 (.inr rfl) (by kernel_rfl) (resV_tmp s6_95) (.ro _ rfl) ?_
                                                                     clear s6_95 mo4_90 mo3_90 mo2_90 mo1_90 mo0_90 ml_90
                                                                     (first | rfl | (exfalso; omega) | (simp; done) | (simp [h12, hnr]; done)))
                                                                · (first | replace hq_94 := bnt hq_94 | replace hq_94 := bnf hq_94 | replace hq_94 := bt hq_94 | replace hq_94 := bf hq_94 | replace hq_94 := bt' hq_94 | replace hq_94 := bf' hq_94 | skip)
                                                                  first
                                                                  | (cases hq_94; done) | (exfalso; omega)
                                                                  | (
                                                                     refine aw_skip ?_
                                                                     refine block_n ?_
                                                                     refine then_n ?_
                                                                     refine aw_text (by kernel_rfl) ?_
                                                                     refine al_ro' (ro_move s22_93) trivial rfl ?_
                                                                     first | (refine al_ro' (ro_add' up_h ev_c ?_) trivial rfl ?_; · (unfold In64; omega)) | refine al_ro' (ro_add up_h ev_c) trivial rfl ?_
                                                                     refine al_ro' (ro_assign up_h) trivial rfl ?_
                                                                     refine al_end (fun e_96 he_96 => ?_)
                                                                     have s7_96 := ef 7 he_96 (up_m rfl (u2 rfl s7_93))
                                                                     have s8_96 := ef 8 he_96 (up_m rfl (u2 rfl s8_93))
                                                                     have s20_96 := ef 20 he_96 (up_m rfl (u2 rfl s20_93))
                                                                     have s22_96 := ef 22 he_96 up_h
                                                                     clear he_96 s20_93 s22_93 s260_93 s7_93 s8_93
                                                                     refine then_n ?_
                                                                     refine ⟨_, ⟨s22_96, (s7_96.trans s7_89.symm), (s8_96.trans s8_89.symm), (s20_96.trans s20_89.symm), (mo4_90.trans mo4_69.symm), (mo3_90.trans mo3_69.symm), (mo2_90.trans mo2_69.symm), (mo1_90.trans mo1_69.symm), (mo0_90.trans mo0_69.symm), ml_90, ?_⟩, ?_⟩
                                                                     · (exact ⟨by omega, by omega⟩)
                                                                     · ((try dsimp only); omega)))
                                                           · (first | replace hq_92 := bnt hq_92 | replace hq_92 := bnf hq_92 | replace hq_92 := bt hq_92 | replace hq_92 := bf hq_92 | replace hq_92 := bt' hq_92 | replace hq_92 := bf' hq_92 | skip)
                                                             first
                                                             | (cases hq_92; done) | (exfalso; omega)
                                                             | (
                                                                refine aw_exit ?_
                                                                refine then_x ?_
                                                                refine then_x ?_
                                                                refine block_hit ?_
                                                                refine then_n ?_
                                                                refine aw_seq ?_
                                                                refine aw_text (by kernel_rfl) ?_
                                                                refine al_ro' (ro_assign ev_c) trivial rfl ?_
                                                                refine al_end (fun e_97 he_97 => ?_)
                                                                have s6_97 := ef 6 he_97 up_h
                                                                clear he_97 s20_91 s22_91 s249_91 s7_91 s8_91
                                                                refine then_n ?_
                                                                refine aw_ret ?_
                                                                refine ret1 (.inr rfl) (by kernel_rfl) (resV_tmp s6_97) (.ro _ rfl) ?_
                                                                clear s6_97 mo4_90 mo3_90 mo2_90 mo1_90 mo0_90 ml_90
                                                                (first | rfl | (exfalso; omega) | (simp; done) | (simp [h12, hnr]; done))))))))
                            · (first | replace hq_52 := bnt hq_52 | replace hq_52 := bnf hq_52 | replace hq_52 := bt hq_52 | replace hq_52 := bf hq_52 | replace hq_52 := bt' hq_52 | replace hq_52 := bf' hq_52 | skip)
                              first
                              | (cases hq_52; done) | (exfalso; omega)
                              | (
                                 refine aw_skip ?_
                                 refine then_n ?_
                                 refine aw_seq ?_
                                 refine aw_draw 21 (by kernel_rfl) (by kernel_rfl) (by kernel_rfl) (by kernel_rfl) ?_
                                 refine ds_ro' (ro_eq (ro_ld_ptr k29_ty51 rfl mo0_3 s3_51 (by first | exact Nat.le_of_ble_eq_true rfl | omega | (simp only [lnS] <;> omega) | (simp <;> omega))) (by first | (simp only [packA_t, packA_f, iE, bE, setAt, cellsA, Value.cells, map_vc, map_vn, Nat.reduceAdd, qS] <;> rfl) | rfl)) trivial rfl ?_
                                 refine ds_ro' (ro_call (evL_cons up_h evL_nil) rfl (rCopy_ok nm ps (by omega)) k29_hcf21) trivial rfl ?_
                                 refine ds_ro' (ro_eq (ro_ld_ptr k29_ty53 rfl mo1_3 (u2 rfl s4_51) (by first | exact Nat.le_of_ble_eq_true rfl | omega | (simp only [lnS] <;> omega) | (simp <;> omega))) (by first | (simp only [packA_t, packA_f, iE, bE, setAt, cellsA, Value.cells, map_vc, map_vn, Nat.reduceAdd, qS] <;> rfl) | rfl)) trivial rfl ?_
                                 refine ds_ro' (ro_fld_ptr k29_fl56_0 rfl (up_m rfl (u2 rfl s5_51))) trivial rfl ?_
                                 refine ds_ro' (ro_ixa k29_ar54 up_h ev_c rfl) trivial rfl ?_
                                 refine ds_ro' (ro_eq (ro_ld_ptr k29_ty3 rfl mo2_3 up_h (by first | exact Nat.le_of_ble_eq_true rfl | omega | (simp only [lnS] <;> omega) | (simp <;> omega))) (by first | (simp only [packA_t, packA_f, iE, bE, setAt, cellsA, Value.cells, map_vc, map_vn, Nat.reduceAdd, qS] <;> rfl) | rfl)) trivial rfl ?_
                                 refine ds_ro' (ro_fld_ptr k29_fl56_0 rfl (u2 rfl (u4 rfl s5_51))) trivial rfl ?_
                                 refine ds_ro' (ro_ixa k29_ar54 up_h ev_c rfl) trivial rfl ?_
                                 refine ds_ro' (ro_eq (ro_ld_ptr k29_ty3 rfl mo2_3 up_h (by first | exact Nat.le_of_ble_eq_true rfl | omega | (simp only [lnS] <;> omega) | (simp <;> omega))) (by first | (simp only [packA_t, packA_f, iE, bE, setAt, cellsA, Value.cells, map_vc, map_vn, Nat.reduceAdd, qS] <;> rfl) | rfl)) trivial rfl ?_
                                 refine ds_ro' (ro_fld_ptr k29_fl56_2 rfl (up_m rfl (u8 rfl s5_51))) trivial rfl ?_
                                 refine ds_ro' (ro_eq (ro_ld_ptr k29_ty3 rfl mo2_3 up_h (by first | exact Nat.le_of_ble_eq_true rfl | omega | (simp only [lnS] <;> omega) | (simp <;> omega))) (by first | (simp only [packA_t, packA_f, iE, bE, setAt, cellsA, Value.cells, map_vc, map_vn, Nat.reduceAdd, qS] <;> rfl) | rfl)) trivial rfl ?_
                                 refine ds_ro' (ro_call (evL_cons up_h (evL_cons ev_c evL_nil)) rfl (bMod_ok more 100000 ⟨by omega, by omega⟩) k29_hcf26) trivial rfl ?_
                                 first | (refine ds_ro' (ro_add' (up_m rfl (u2 rfl up_h)) up_h ?_) trivial rfl ?_; · (unfold In64; omega)) | refine ds_ro' (ro_add (up_m rfl (u2 rfl up_h)) up_h) trivial rfl ?_
                                 refine ds_ro' (ro_min ev_c up_h) trivial rfl ?_
                                 refine ds_ro' (ro_buildA (evP_cons (u8 rfl up_h) (evP_cons up_h evP_nil)) k29_bz54 k29_bu54 k29_bp54 rfl) trivial rfl ?_
                                 refine ds_ro' (ro_call (evL_cons (up_m rfl (u4 rfl (u8 rfl up_h))) (evL_cons (u4 rfl (u8 rfl up_h)) (evL_cons up_h evL_nil))) rfl (fastest0_ok hs hp h0 he0 (e1 := min 20000000000 (e1 + more % 100000)) (by omega)) k29_hcf20) trivial rfl ?_
                                 refine ds_ro' (ro_move up_h) trivial rfl ?_
                                 refine ds_ro' (ro_extract up_h rfl) trivial rfl ?_
                                 refine ds_ro' (ro_extract (up_m rfl up_h) rfl) trivial rfl ?_
                                 refine ds_ro' (ro_assign (up_m rfl up_h)) trivial rfl ?_
                                 refine ds_ro' (ro_assign (up_m rfl up_h)) trivial rfl ?_
                                 refine ds_nil ?_
                                 refine al_end (fun e_98 he_98 => ?_)
                                 have s7_98 := ef 7 he_98 (up_m rfl (u4 rfl (u16 rfl s7_51)))
                                 have s8_98 := ef 8 he_98 (up_m rfl (u4 rfl (u16 rfl s8_51)))
                                 have s20_98 := ef 20 he_98 (up_m rfl up_h)
                                 have s21_98 := ef 21 he_98 up_h
                                 clear he_98 s10_51 s162_51 s3_51 s4_51 s5_51 s7_51 s8_51
                                 refine then_n ?_
                                 refine aw_seq ?_
                                 refine aw_seq ?_
                                 refine aw_text (by kernel_rfl) ?_
                                 refine al_ro' (ro_move s21_98) trivial rfl ?_
                                 refine al_ro' (ro_neq up_h ev_c) trivial rfl ?_
                                 refine al_ro' (ro_move up_h) trivial rfl ?_
                                 refine al_case up_h (fun hb_99 hq_99 => ?_) (fun hb_99 hq_99 => ?_)
                                 · (first | replace hq_99 := bnt hq_99 | replace hq_99 := bnf hq_99 | replace hq_99 := bt hq_99 | replace hq_99 := bf hq_99 | replace hq_99 := bt' hq_99 | replace hq_99 := bf' hq_99 | skip)
                                   first
                                   | (cases hq_99; done) | (exfalso; omega)
                                   | (
                                      refine al_skip' ⟨_, rfl, .inl hb_99⟩ rfl ?_
                                      refine al_skip' ⟨_, rfl, .inl (up_m rfl hb_99)⟩ rfl ?_
                                      refine al_skip' ⟨_, rfl, .inl (u2 rfl hb_99)⟩ rfl ?_
                                      refine al_skip' ⟨_, rfl, .inl (up_m rfl (u2 rfl hb_99))⟩ rfl ?_
                                      refine al_skip' ⟨_, rfl, .inl (u4 rfl hb_99)⟩ rfl ?_
                                      refine al_ro' (ro_pickT (up_m rfl (u4 rfl hb_99)) ev_c) trivial rfl ?_
                                      refine al_end (fun e_100 he_100 => ?_)
                                      have s7_100 := ef 7 he_100 (up_m rfl (u8 rfl s7_98))
                                      have s8_100 := ef 8 he_100 (up_m rfl (u8 rfl s8_98))
                                      have s20_100 := ef 20 he_100 (up_m rfl (u8 rfl s20_98))
                                      have s246_100 := ef 246 he_100 up_h
                                      clear he_100 hb_99 s20_98 s21_98 s7_98 s8_98
                                      refine then_n ?_
                                      refine aw_true s246_100 ?_
                                      refine aw_seq ?_
                                      refine aw_text (by kernel_rfl) ?_
                                      refine al_ro' (ro_assign ev_c) trivial rfl ?_
                                      refine al_end (fun e_102 he_102 => ?_)
                                      have s6_102 := ef 6 he_102 up_h
                                      clear he_102 s20_100 s246_100 s7_100 s8_100
                                      refine then_n ?_
                                      refine aw_ret ?_
                                      refine then_r ?_
                                      refine ret1 (.inr rfl) (by kernel_rfl) (resV_tmp s6_102) (.ro _ rfl) ?_
                                      clear s6_102 mo2_3 mo1_3 mo0_3 ml_3
                                      (first | rfl | (exfalso; omega) | (simp; done) | (simp [h12, hnr]; done)))
                                 · (first | replace hq_99 := bnt hq_99 | replace hq_99 := bnf hq_99 | replace hq_99 := bt hq_99 | replace hq_99 := bf hq_99 | replace hq_99 := bt' hq_99 | replace hq_99 := bf' hq_99 | skip)
                                   first
                                   | (cases hq_99; done) | (exfalso; omega)
                                   | (
                                      refine al_ro' (ro_move (up_m rfl (u2 rfl s20_98))) ⟨_, rfl, hb_99⟩ rfl ?_
                                      refine al_ro' (ro_eq (ro_len_row up_h rfl k29_sl22.1) (by first | (simp only [lnS] <;> rfl) | rfl)) ⟨_, rfl, (up_m rfl hb_99)⟩ rfl ?_
                                      refine al_ro' (ro_move (up_m rfl (u4 rfl s7_98))) ⟨_, rfl, (u2 rfl hb_99)⟩ rfl ?_
                                      first | (refine al_ro' (ro_add' up_h ev_c ?_) ⟨_, rfl, (up_m rfl (u2 rfl hb_99))⟩ rfl ?_; · (unfold In64; omega)) | refine al_ro' (ro_add up_h ev_c) ⟨_, rfl, (up_m rfl (u2 rfl hb_99))⟩ rfl ?_
                                      refine al_ro' (ro_neq (u2 rfl up_h) up_h) ⟨_, rfl, (u4 rfl hb_99)⟩ rfl ?_
                                      refine al_ro' (ro_pickF (up_m rfl (u4 rfl hb_99)) up_h) trivial rfl ?_
                                      refine al_end (fun e_103 he_103 => ?_)
                                      have s7_103 := ef 7 he_103 (up_m rfl (u8 rfl s7_98))
                                      have s8_103 := ef 8 he_103 (up_m rfl (u8 rfl s8_98))
                                      have s20_103 := ef 20 he_103 (up_m rfl (u8 rfl s20_98))
                                      have s246_103 := ef 246 he_103 up_h
                                      clear he_103 hb_99 s20_98 s21_98 s7_98 s8_98
                                      refine then_n ?_
                                      refine aw_case s246_103 (fun hq_104 => ?_) (fun hq_104 => ?_)
                                      · (first | replace hq_104 := bnt hq_104 | replace hq_104 := bnf hq_104 | replace hq_104 := bt hq_104 | replace hq_104 := bf hq_104 | replace hq_104 := bt' hq_104 | replace hq_104 := bf' hq_104 | skip)
                                        first
                                        | (cases hq_104; done) | (exfalso; omega)
                                        | (
                                           refine aw_seq ?_
                                           refine aw_text (by kernel_rfl) ?_
                                           refine al_ro' (ro_assign ev_c) trivial rfl ?_
                                           refine al_end (fun e_105 he_105 => ?_)
                                           have s6_105 := ef 6 he_105 up_h
                                           clear he_105 s20_103 s246_103 s7_103 s8_103
                                           refine then_n ?_
                                           refine aw_ret ?_
                                           refine then_r ?_
                                           refine ret1 (.inr rfl) (by kernel_rfl) (resV_tmp s6_105) (.ro _ rfl) ?_
                                           clear s6_105 mo2_3 mo1_3 mo0_3 ml_3
                                           (first | rfl | (exfalso; omega) | (simp; done) | (simp [h12, hnr]; done)))
                                      · (first | replace hq_104 := bnt hq_104 | replace hq_104 := bnf hq_104 | replace hq_104 := bt hq_104 | replace hq_104 := bf hq_104 | replace hq_104 := bt' hq_104 | replace hq_104 := bf' hq_104 | skip)
                                        first
                                        | (cases hq_104; done) | (exfalso; omega)
                                        | (
                                           refine aw_skip ?_
                                           refine then_n ?_
                                           refine aw_seq ?_
                                           refine aw_seq ?_
                                           refine aw_text (by kernel_rfl) ?_
                                           refine al_ro' (ro_assign ev_c) trivial rfl ?_
                                           refine al_end (fun e_106 he_106 => ?_)
                                           have s7_106 := ef 7 he_106 (up_m rfl s7_103)
                                           have s8_106 := ef 8 he_106 (up_m rfl s8_103)
                                           have s20_106 := ef 20 he_106 (up_m rfl s20_103)
                                           have s22_106 := ef 22 he_106 up_h
                                           clear he_106 s20_103 s246_103 s7_103 s8_103
                                           refine then_n ?_
                                           refine aw_block ?_
                                           refine aw_loop (S := Int) (fun i e mem => (evA e (.tmp 22) = .v (.int .i64 i)) ∧ (evA e (.tmp 7) = evA e_106 (.tmp 7)) ∧ (evA e (.tmp 8) = evA e_106 (.tmp 8)) ∧ (evA e (.tmp 20) = evA e_106 (.tmp 20)) ∧ (mem[2]? = m_3[2]?) ∧ (mem[1]? = m_3[1]?) ∧ (mem[0]? = m_3[0]?) ∧ (mem.length = 3) ∧ ((0 ≤ i ∧ i ≤ ps.length + 1))) (fun i => (ps.length + 1 - i).toNat) _ ⟨s22_106, rfl, rfl, rfl, rfl, rfl, rfl, ml_3, ?_⟩ ?_
                                           · (exact ⟨by omega, by omega⟩)
                                           · rintro i e_107 m_107 ⟨s22_107, k7_107, k8_107, k20_107, mk2_107, mk1_107, mk0_107, ml_107, hinv⟩
                                             have s7_107 := k7_107.trans s7_106
                                             have s8_107 := k8_107.trans s8_106
                                             have s20_107 := k20_107.trans s20_106
                                             have mo2_107 := mk2_107.trans mo2_3
                                             have mo1_107 := mk1_107.trans mo1_3
                                             have mo0_107 := mk0_107.trans mo0_3
                                             (obtain ⟨p1, p2⟩ := hinv)
                                             refine aw_seq ?_
                                             refine aw_seq ?_
                                             refine aw_text (by kernel_rfl) ?_
                                             refine al_ro' (ro_move s22_107) trivial rfl ?_
                                             refine al_ro' (ro_move (up_m rfl s7_107)) trivial rfl ?_
                                             refine al_ro' (ro_leq (up_m rfl up_h) up_h) trivial rfl ?_
                                             refine al_end (fun e_108 he_108 => ?_)
                                             have s7_108 := ef 7 he_108 (up_m rfl (u2 rfl s7_107))
                                             have s8_108 := ef 8 he_108 (up_m rfl (u2 rfl s8_107))
                                             have s20_108 := ef 20 he_108 (up_m rfl (u2 rfl s20_107))
                                             have s22_108 := ef 22 he_108 (up_m rfl (u2 rfl s22_107))
                                             have s249_108 := ef 249 he_108 up_h
                                             clear he_108 s20_107 s22_107 s7_107 s8_107
                                             refine then_n ?_
                                             refine aw_case s249_108 (fun hq_109 => ?_) (fun hq_109 => ?_)
                                             · (first | replace hq_109 := bnt hq_109 | replace hq_109 := bnf hq_109 | replace hq_109 := bt hq_109 | replace hq_109 := bf hq_109 | replace hq_109 := bt' hq_109 | replace hq_109 := bf' hq_109 | skip)
                                               first
                                               | (cases hq_109; done) | (exfalso; omega)
                                               | (
                                                  (have hm2 := hG.2 i.toNat (by omega))
                                                  refine aw_skip ?_
                                                  refine then_n ?_
                                                  refine aw_seq ?_
                                                  refine aw_block ?_
                                                  refine aw_seq ?_
                                                  refine aw_draw 9 (by kernel_rfl) (by kernel_rfl) (by kernel_rfl) (by kernel_rfl) ?_
                                                  refine ds_ro' (ro_move s20_108) trivial rfl ?_
                                                  refine ds_ro' (ro_move (up_m rfl s22_108)) trivial rfl ?_
                                                  refine ds_ro' (ro_eq (ro_ix k29_sl22 (up_m rfl up_h) up_h (by first | decide | omega | (simp <;> omega)) (by first | (refine idx_map ?_; first | omega | (simp only [lnS]; omega)) | (refine idx_mapI ?_; first | omega | (simp only [lnS]; omega)) | (refine idx_mapN ?_; first | omega | (simp only [lnS]; omega)) | rfl)) (by first | (simp only [packA_t, packA_f, iE, bE, setAt, cellsA, Value.cells, map_vc, map_vn, Nat.reduceAdd, qS] <;> rfl) | rfl)) trivial rfl ?_
                                                  refine ds_ro' (ro_eq (ro_ld_ref k29_ty3 rfl up_h (by first | exact Nat.le_of_ble_eq_true rfl | omega | (simp only [lnS] <;> omega) | (simp <;> omega))) (by first | (simp only [packA_t, packA_f, iE, bE, setAt, cellsA, Value.cells, map_vc, map_vn, Nat.reduceAdd, qS] <;> rfl) | rfl)) trivial rfl ?_
                                                  refine ds_ro' (ro_move (u4 rfl s8_108)) trivial rfl ?_
                                                  refine ds_ro' (ro_move (up_m rfl (u4 rfl s22_108))) trivial rfl ?_
                                                  refine ds_ro' (ro_eq (ro_ix k29_sl22 (up_m rfl up_h) up_h (by first | decide | omega | (simp <;> omega)) (by first | (refine idx_map ?_; first | omega | (simp only [lnS]; omega)) | (refine idx_mapI ?_; first | omega | (simp only [lnS]; omega)) | (refine idx_mapN ?_; first | omega | (simp only [lnS]; omega)) | rfl)) (by first | (simp only [packA_t, packA_f, iE, bE, setAt, cellsA, Value.cells, map_vc, map_vn, Nat.reduceAdd, qS] <;> rfl) | rfl)) trivial rfl ?_
                                                  refine ds_ro' (ro_eq (ro_ld_ref k29_ty3 rfl up_h (by first | exact Nat.le_of_ble_eq_true rfl | omega | (simp only [lnS] <;> omega) | (simp <;> omega))) (by first | (simp only [packA_t, packA_f, iE, bE, setAt, cellsA, Value.cells, map_vc, map_vn, Nat.reduceAdd, qS] <;> rfl) | rfl)) trivial rfl ?_
                                                  refine ds_ro' (ro_lss (u4 rfl up_h) up_h) trivial rfl ?_
                                                  refine ds_nil ?_
                                                  refine al_end (fun e_110 he_110 => ?_)
                                                  have s7_110 := ef 7 he_110 (up_m rfl (u8 rfl s7_108))
                                                  have s8_110 := ef 8 he_110 (up_m rfl (u8 rfl s8_108))
                                                  have s20_110 := ef 20 he_110 (up_m rfl (u8 rfl s20_108))
                                                  have s22_110 := ef 22 he_110 (up_m rfl (u8 rfl s22_108))
                                                  have s260_110 := ef 260 he_110 up_h
                                                  clear he_110 s20_108 s22_108 s249_108 s7_108 s8_108
                                                  refine then_n ?_
                                                  refine aw_case s260_110 (fun hq_111 => ?_) (fun hq_111 => ?_)
                                                  · (first | replace hq_111 := bnt hq_111 | replace hq_111 := bnf hq_111 | replace hq_111 := bt hq_111 | replace hq_111 := bf hq_111 | replace hq_111 := bt' hq_111 | replace hq_111 := bf' hq_111 | skip)
                                                    first
                                                    | (cases hq_111; done) | (exfalso; omega)
                                                    | (
                                                       refine aw_seq ?_
                                                       refine aw_text (by kernel_rfl) ?_
                                                       refine al_ro' (ro_assign ev_c) trivial rfl ?_
                                                       refine al_end (fun e_112 he_112 => ?_)
                                                       have s6_112 := ef 6 he_112 up_h
                                                       clear he_112 s20_110 s22_110 s260_110 s7_110 s8_110
                                                       refine then_n ?_
                                                       refine aw_ret ?_
                                                       refine block_r ?_
                                                       refine then_r ?_
                                                       refine then_r ?_
                                                       refine block_r ?_
                                                       refine then_r ?_
                                                       refine ret1 (.inr rfl) (by kernel_rfl) (resV_tmp s6_112) (.ro _ rfl) ?_
                                                       clear s6_112 mo2_107 mo1_107 mo0_107 ml_107
                                                       (first | rfl | (exfalso; omega) | (simp; done) | (simp [h12, hnr]; done)))
                                                  · (first | replace hq_111 := bnt hq_111 | replace hq_111 := bnf hq_111 | replace hq_111 := bt hq_111 | replace hq_111 := bf hq_111 | replace hq_111 := bt' hq_111 | replace hq_111 := bf' hq_111 | skip)
                                                    first
                                                    | (cases hq_111; done) | (exfalso; omega)
                                                    | (
                                                       refine aw_skip ?_
                                                       refine block_n ?_
                                                       refine then_n ?_
                                                       refine aw_text (by kernel_rfl) ?_
                                                       refine al_ro' (ro_move s22_110) trivial rfl ?_
                                                       first | (refine al_ro' (ro_add' up_h ev_c ?_) trivial rfl ?_; · (unfold In64; omega)) | refine al_ro' (ro_add up_h ev_c) trivial rfl ?_
                                                       refine al_ro' (ro_assign up_h) trivial rfl ?_
                                                       refine al_end (fun e_113 he_113 => ?_)
                                                       have s7_113 := ef 7 he_113 (up_m rfl (u2 rfl s7_110))
                                                       have s8_113 := ef 8 he_113 (up_m rfl (u2 rfl s8_110))
                                                       have s20_113 := ef 20 he_113 (up_m rfl (u2 rfl s20_110))
                                                       have s22_113 := ef 22 he_113 up_h
                                                       clear he_113 s20_110 s22_110 s260_110 s7_110 s8_110
                                                       refine then_n ?_
                                                       refine ⟨_, ⟨s22_113, (s7_113.trans s7_106.symm), (s8_113.trans s8_106.symm), (s20_113.trans s20_106.symm), (mo2_107.trans mo2_3.symm), (mo1_107.trans mo1_3.symm), (mo0_107.trans mo0_3.symm), ml_107, ?_⟩, ?_⟩
                                                       · (exact ⟨by omega, by omega⟩)
                                                       · ((try dsimp only); omega)))
                                             · (first | replace hq_109 := bnt hq_109 | replace hq_109 := bnf hq_109 | replace hq_109 := bt hq_109 | replace hq_109 := bf hq_109 | replace hq_109 := bt' hq_109 | replace hq_109 := bf' hq_109 | skip)
                                               first
                                               | (cases hq_109; done) | (exfalso; omega)
                                               | (
                                                  refine aw_exit ?_
                                                  refine then_x ?_
                                                  refine then_x ?_
                                                  refine block_hit ?_
                                                  refine then_n ?_
                                                  refine aw_seq ?_
                                                  refine aw_text (by kernel_rfl) ?_
                                                  refine al_ro' (ro_assign ev_c) trivial rfl ?_
                                                  refine al_end (fun e_114 he_114 => ?_)
                                                  have s6_114 := ef 6 he_114 up_h
                                                  clear he_114 s20_108 s22_108 s249_108 s7_108 s8_108
                                                  refine then_n ?_
                                                  refine aw_ret ?_
                                                  refine ret1 (.inr rfl) (by kernel_rfl) (resV_tmp s6_114) (.ro _ rfl) ?_
                                                  clear s6_114 mo2_107 mo1_107 mo0_107 ml_107
                                                  (first | rfl | (exfalso; omega) | (simp; done) | (simp [h12, hnr]; done))))))))))
end Go.Proofs.Ytgiiedpambimoaa
