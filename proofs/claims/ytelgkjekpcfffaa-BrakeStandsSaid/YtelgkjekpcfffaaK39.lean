/- The law of chapter 5 on the place where a train stands. No conditions on a program. -/
import Derived.Test.YtelgkjekpcfffaaK38
import Derived.Test.YtelgkjekpcfffaaK20
import Derived.Test.YtelgkjekpcfffaaK30
import Derived.Test.YtelgkjekpcfffaaK12
namespace Go.Proofs.Ytelgkjekpcfffaa
open Go Go.RowKit Go.Proofs
set_option linter.unusedSimpArgs false
set_option linter.unusedVariables false
theorem k39_az24 : (Try.prog.info? 24).bind (·.zero) = some (.agg #[.string ByteArray.empty, .slice none 0 0]) := by kernel_rfl
theorem k39_az68 : (Try.prog.info? 68).bind (·.zero) = some (.agg #[.int .i64 0, .int .i64 0]) := by kernel_rfl
theorem k39_fl72_0 : FldIs Try.prog 72 0 0 true 2 := by unfold FldIs; kernel_rfl
theorem k39_fl72_1 : FldIs Try.prog 72 1 2 true 2 := by unfold FldIs; kernel_rfl
theorem k39_hcf15 : ∀ args w, (callFunc 15 args).run Try.prog w = .ok (.enter 15 args) w := fun _ _ => by kernel_rfl
theorem k39_hcf16 : ∀ args w, (callFunc 16 args).run Try.prog w = .ok (.enter 16 args) w := fun _ _ => by kernel_rfl
theorem k39_hcf18 : ∀ args w, (callFunc 18 args).run Try.prog w = .ok (.enter 18 args) w := fun _ _ => by kernel_rfl
theorem k39_hcf19 : ∀ args w, (callFunc 19 args).run Try.prog w = .ok (.enter 19 args) w := fun _ _ => by kernel_rfl
theorem k39_hcf25 : ∀ args w, (callFunc 25 args).run Try.prog w = .ok (.enter 25 args) w := fun _ _ => by kernel_rfl
theorem k39_hcf40 : ∀ args w, (callFunc 40 args).run Try.prog w = .ok (.enter 40 args) w := fun _ _ => by kernel_rfl
theorem k39_hcf41 : ∀ args w, (callFunc 41 args).run Try.prog w = .ok (.enter 41 args) w := fun _ _ => by kernel_rfl
theorem k39_hcf42 : ∀ args w, (callFunc 42 args).run Try.prog w = .ok (.enter 42 args) w := fun _ _ => by kernel_rfl
theorem k39_gq68 : Try.prog.eqGuardType Try.prog.depth 68 = false := by kernel_rfl
theorem k39_sq68 {a0 b0 : Int} {a1 b1 : Int} : EqV Try.prog 2 68 (.agg #[.int .i64 a0, .int .i64 a1]) (.agg #[.int .i64 b0, .int .i64 b1]) (decide (a0 = b0) && (decide (a1 = b1) && true)) := (eqs_struct [(3, 0), (3, 1)] (by kernel_rfl) (by kernel_rfl) (by kernel_rfl) (by kernel_rfl) (.cons (fun _ => by kernel_rfl) (fun _ => by kernel_rfl) (eqv_int (k := .i64) (k' := .i64) (by kernel_rfl) a0 b0) (.cons (fun _ => by kernel_rfl) (fun _ => by kernel_rfl) (eqv_int (k := .i64) (k' := .i64) (by kernel_rfl) a1 b1) .nil)))
theorem k39_sz24 : (Try.prog.info? 24).map (·.size) = some 2 := by kernel_rfl
theorem k39_sz68 : (Try.prog.info? 68).map (·.size) = some 2 := by kernel_rfl
theorem k39_ty24 : TyIs Try.prog 24 true 2 := ⟨by kernel_rfl, by kernel_rfl⟩
theorem k39_ty26 : TyIs Try.prog 26 true 3 := ⟨by kernel_rfl, by kernel_rfl⟩
theorem k39_ty42 : TyIs Try.prog 42 true 2 := ⟨by kernel_rfl, by kernel_rfl⟩
theorem k39_ty68 : TyIs Try.prog 68 true 2 := ⟨by kernel_rfl, by kernel_rfl⟩

/-! ### Two tracks as one -/
theorem chk_fine {nm : ByteArray} {ps : List Piece} (h : err0 nm ps = 0) (hok : Ok ps) : (chk nm ps).2 = 0 := by
  unfold chk
  rw [if_neg (by simpa using h), List.findIdx?_eq_none_iff.2 fun p hp => by simp [hok p hp]]
theorem chk_zero {nm : ByteArray} {ps : List Piece} (h : (chk nm ps).2 = 0) : err0 nm ps = 0 := by
  unfold chk at h
  by_cases h0 : err0 nm ps ≠ 0
  · rw [if_pos h0] at h; exact absurd h h0
  · simpa using h0
theorem chk_join {na : ByteArray} {ps : List Piece} {nb : ByteArray} {qs : List Piece} (h : jnE na ps nb qs = 0) : (chk na (ps ++ qs)).2 = 0 ∧ (chk na ps).2 = 0 ∧ (chk nb qs).2 = 0 ∧ (ps.length + qs.length ≤ 12) := by
  obtain ⟨h1, h2⟩ := firstE_cons h
  obtain ⟨h3, h4⟩ := firstE_cons h2
  have h5 := unlessE_zero (firstE_cons h4).1 (by decide)
  simp only [decide_eq_true_eq] at h5
  have a := chk_right h1
  have b := chk_right h3
  refine ⟨chk_fine ?_ fun p hp => ?_, h1, h3, by omega⟩
  · have e0 := chk_zero h1
    obtain ⟨c1, _⟩ := firstE_cons e0
    unfold err0
    rw [c1, show unlessE (decide ((0 : Int) < (ps ++ qs).length)) 10 = 0 by rw [decide_eq_true (by rw [List.length_append]; have := a.2.1; omega)]; rfl, show unlessE (decide (((ps ++ qs).length : Int) ≤ 12)) 8 = 0 by rw [decide_eq_true (by rw [List.length_append]; omega)]; rfl]
    rfl
  · rcases List.mem_append.1 hp with hp | hp
    · exact a.1 p hp
    · exact b.1 p hp
theorem getD_app {ps qs : List Piece} {i : Nat} (h : i < ps.length) : (ps ++ qs).getD i default = ps.getD i default := by
  rw [List.getD_eq_getElem?_getD, List.getElem?_append_left h, ← List.getD_eq_getElem?_getD]
theorem sumL_app {ps qs : List Piece} : ∀ {i : Nat}, i ≤ ps.length → sumL (ps ++ qs) i = sumL ps i
  | 0, _ => rfl
  | i + 1, h => by simp only [sumL]; rw [sumL_app (by omega), getD_app (by omega)]
theorem stG_app {ps qs : List Piece} {b : Int} {r : Int × Int} : ∀ (k i : Nat) (s : Int), i + k = ps.length → stG ps b k i s = some r → stG (ps ++ qs) b (k + qs.length) i s = some r
  | 0, i, s, _, h => by cases h
  | k + 1, i, s, hi, h => by
    rw [show k + 1 + qs.length = (k + qs.length) + 1 by omega]
    simp only [stG] at h ⊢
    rw [getD_app (by omega), sumL_app (by omega)]
    split
    · rename_i hc; rw [if_pos hc] at h; exact h
    · rename_i hc; rw [if_neg hc] at h; exact stG_app k (i + 1) _ (by omega) h
theorem stW_app {ps qs : List Piece} {b post sq : Int} (hp : 0 ≤ post ∧ post ≤ ps.length) (h : (stW ps b post sq).2 = 0) : stW (ps ++ qs) b post sq = stW ps b post sq := by
  unfold stW at h ⊢
  cases hg : stG ps b (ps.length - post.toNat) post.toNat sq with
  | none => rw [hg] at h; cases h
  | some r =>
    have := stG_app (qs := qs) _ _ _ (by omega) hg
    rw [show (ps ++ qs).length - post.toNat = ps.length - post.toNat + qs.length by rw [List.length_append]; omega, this]
theorem stW_two (ps : List Piece) (b post sq : Int) : (stW ps b post sq).2 = 0 ∨ ((stW ps b post sq).2 = 12 ∧ (stW ps b post sq).1 = (0, 0)) := by
  unfold stW
  split
  · exact .inl rfl
  · exact .inr ⟨rfl, rfl⟩
/-- What StandsAt answers. -/
def saR (nm : ByteArray) (ps : List Piece) (b d v post sq : Int) : Int × Int := if stE nm ps b d v post sq = 0 then (stW ps b post sq).1 else (0, 0)
def saE (nm : ByteArray) (ps : List Piece) (b d v post sq : Int) : Int := if stE nm ps b d v post sq = 0 then (stW ps b post sq).2 else stE nm ps b d v post sq
theorem sa_bad {nm : ByteArray} {ps : List Piece} {b d v post sq : Int} (h : ¬ stE nm ps b d v post sq = 0) : (saR nm ps b d v post sq).1 = 0 ∧ (saR nm ps b d v post sq).2 = 0 ∧ saE nm ps b d v post sq = stE nm ps b d v post sq := by
  unfold saR saE; rw [if_neg h, if_neg h]; exact ⟨rfl, rfl, rfl⟩
theorem sa_good {nm : ByteArray} {ps : List Piece} {b d v post sq : Int} (h : stE nm ps b d v post sq = 0) : (saR nm ps b d v post sq).1 = (stW ps b post sq).1.1 ∧ (saR nm ps b d v post sq).2 = (stW ps b post sq).1.2 ∧ saE nm ps b d v post sq = (stW ps b post sq).2 := by
  unfold saR saE; rw [if_pos h, if_pos h]; exact ⟨rfl, rfl, rfl⟩
theorem stands1_ok (nm : ByteArray) (ps : List Piece) (hs : nm.size ≤ 1000000000) (hp : ps.length ≤ 1000000000) (b d v post sq : Int) : FnOk Try.prog 40 [trA nm ps, syA b d v, .agg [iA post, iA sq]] (fun q => q = .tuple [.agg [iA (saR nm ps b d v post sq).1, iA (saR nm ps b d v post sq).2], iA (saE nm ps b d v post sq)]) := standsAt_ok nm ps hs hp b d v post sq
def jnN (na : ByteArray) (ps : List Piece) (nb : ByteArray) (qs : List Piece) : ByteArray := if jnE na ps nb qs = 0 then na else ⟨#[]⟩
def jnP (na : ByteArray) (ps : List Piece) (nb : ByteArray) (qs : List Piece) : List Piece := if jnE na ps nb qs = 0 then ps ++ qs else []
theorem joined1_ok (na : ByteArray) (ps : List Piece) (nb : ByteArray) (qs : List Piece) (ha : na.size ≤ 1000000000) (hp : ps.length ≤ 1000) (hb : nb.size ≤ 1000000000) (hq : qs.length ≤ 1000) :
    FnOk Try.prog 42 [trA na ps, trA nb qs] (fun q => q = .tuple [trA (jnN na ps nb qs) (jnP na ps nb qs), iA (jnE na ps nb qs)]) := joined_ok na ps nb qs ha hp hb hq
theorem stE_join {na : ByteArray} {ps : List Piece} {nb : ByteArray} {qs : List Piece} {b d v post sq : Int} (h : stE na ps b d v post sq = 0) (hj : jnE na ps nb qs = 0) : stE na (ps ++ qs) b d v post sq = 0 := by
  obtain ⟨h1, h2⟩ := firstE_cons h
  obtain ⟨h3, h4⟩ := firstE_cons h1
  have hw := (stE_right h).2.2
  have h5 : sysE b d v = 0 := (firstE_cons h4).1
  have e1 : stateE (ps ++ qs) post sq = 0 := by
    have a1 : withinB post 0 ((ps ++ qs).length : Nat) = true := by simp only [withinB, Bool.and_eq_true, decide_eq_true_eq, List.length_append]; omega
    have a2 : withinB sq 0 20000000000 = true := by simp only [withinB, Bool.and_eq_true, decide_eq_true_eq]; omega
    unfold stateE
    rw [a1, a2]; rfl
  unfold stE
  rw [(chk_join hj).1, h5, e1]; rfl
theorem stands_join {na : ByteArray} {ps : List Piece} {nb : ByteArray} {qs : List Piece} {b d v post sq : Int} (h : stE na ps b d v post sq = 0) (h2 : (stW ps b post sq).2 = 0) (hj : jnE na ps nb qs = 0) (ha : na.size ≤ 1000000000) (hp : ps.length ≤ 1000) (hq : qs.length ≤ 1000) :
    FnOk Try.prog 40 [trA (jnN na ps nb qs) (jnP na ps nb qs), syA b d v, .agg [iA post, iA sq]] (fun q => q = .tuple [.agg [iA (stW ps b post sq).1.1, iA (stW ps b post sq).1.2], iA 0]) := by
  have e1 : jnN na ps nb qs = na := by unfold jnN; rw [if_pos hj]
  have e2 : jnP na ps nb qs = ps ++ qs := by unfold jnP; rw [if_pos hj]
  rw [e1, e2]
  refine (stands1_ok na (ps ++ qs) ha (by rw [List.length_append]; omega) b d v post sq).mono fun q hq => ?_
  obtain ⟨c1, c2, c3⟩ := sa_good (stE_join (sq := sq) h hj)
  rw [hq, c1, c2, c3, stW_app (stE_right h).2.2.1 h2, h2]
theorem stE_ite (nm : ByteArray) (ps : List Piece) (b d v post sq : Int) : stE nm ps b d v post sq = if firstE [(chk nm ps).2, sysE b d v] = 0 then stateE ps post sq else firstE [(chk nm ps).2, sysE b d v] := firstE_two _ _
set_option maxRecDepth 100000 in
set_option maxHeartbeats 4000000 in
theorem brakeStands_ok (nm : ByteArray) (ps : List Piece) (b d v : Int) (post sq : Int) (nb : ByteArray) (qs : List Piece) : FnOk Try.prog 10 [trA nm ps, syA b d v, .agg [iA post, iA sq, .v (.string nb), .row 4 (qs.map pE)]] (fun q => q = bA true) := by
  refine fnOk_of (fn := Try.f10) 97 (by kernel_rfl) rfl (by kernel_rfl) (Nat.le_of_ble_eq_true rfl) ?_
  intro e_0 m_0 hA hm_0
  have s0_0 : evA e_0 (.tmp 0) = _ := hA 0 _ rfl
  have s1_0 : evA e_0 (.tmp 1) = _ := hA 1 _ rfl
  have s2_0 : evA e_0 (.tmp 2) = _ := hA 2 _ rfl
  have ml_0 : m_0.length = 0 := by rw [hm_0]; rfl
  clear hA hm_0
  refine aw_seq ?_
  refine aw_text (by kernel_rfl) ?_
  refine al_stm (st_box s0_0 rfl ml_0) trivial rfl (fun m_1 hm_1 => ?_)
  have mo0_1 := m_push hm_1 ml_0
  (try simp only [packA_t, packA_f, iE, bE, setAt, cellsA, Value.cells, map_vc, map_vn, Nat.reduceAdd, qS] at mo0_1)
  have ml_1 := m_push_l hm_1 ml_0
  have ml_1 : _ = 1 := ml_1
  clear hm_1
  refine al_stm (st_box (up_m rfl s1_0) rfl ml_1) trivial rfl (fun m_2 hm_2 => ?_)
  have mo1_2 := m_push hm_2 ml_1
  (try simp only [packA_t, packA_f, iE, bE, setAt, cellsA, Value.cells, map_vc, map_vn, Nat.reduceAdd, qS] at mo1_2)
  have mo0_2 := m_push_o hm_2 mo0_1
  have ml_2 := m_push_l hm_2 ml_1
  have ml_2 : _ = 2 := ml_2
  clear hm_2 mo0_1
  refine al_stm (st_box (u2 rfl s2_0) rfl ml_2) trivial rfl (fun m_3 hm_3 => ?_)
  have mo2_3 := m_push hm_3 ml_2
  (try simp only [packA_t, packA_f, iE, bE, setAt, cellsA, Value.cells, map_vc, map_vn, Nat.reduceAdd, qS] at mo2_3)
  have mo1_3 := m_push_o hm_3 mo1_2
  have mo0_3 := m_push_o hm_3 mo0_2
  have ml_3 := m_push_l hm_3 ml_2
  have ml_3 : _ = 3 := ml_3
  clear hm_3 mo1_2 mo0_2
  refine al_ro' (ro_assign ev_c) trivial rfl ?_
  refine al_end (fun e_4 he_4 => ?_)
  have s3_4 := ef 3 he_4 (up_m rfl (u2 rfl up_h))
  have s4_4 := ef 4 he_4 (u2 rfl up_h)
  have s5_4 := ef 5 he_4 (up_m rfl up_h)
  clear he_4 s0_0 s1_0 s2_0
  refine then_n ?_
  refine aw_seq ?_
  refine aw_seq ?_
  refine aw_text (by kernel_rfl) ?_
  refine al_ro' (ro_call evL_nil rfl (awake_ok) k39_hcf15) trivial rfl ?_
  refine al_ro' (ro_not up_h) trivial rfl ?_
  refine al_end (fun e_5 he_5 => ?_)
  have s3_5 := ef 3 he_5 (u2 rfl s3_4)
  have s4_5 := ef 4 he_5 (u2 rfl s4_4)
  have s5_5 := ef 5 he_5 (u2 rfl s5_4)
  have s18_5 := ef 18 he_5 up_h
  clear he_5 s3_4 s4_4 s5_4
  refine then_n ?_
  refine aw_case s18_5 (fun hq_6 => ?_) (fun hq_6 => ?_)
  · (first | replace hq_6 := bnt hq_6 | replace hq_6 := bnf hq_6 | replace hq_6 := bt hq_6 | replace hq_6 := bf hq_6 | replace hq_6 := bt' hq_6 | replace hq_6 := bf' hq_6 | skip)
    first
    | (cases hq_6; done) | (exfalso; omega)
    | (
       refine aw_seq ?_
       refine aw_text (by kernel_rfl) ?_
       refine al_ro' (ro_assign ev_c) trivial rfl ?_
       refine al_end (fun e_7 he_7 => ?_)
       have s6_7 := ef 6 he_7 up_h
       clear he_7 s18_5 s3_5 s4_5 s5_5
       refine then_n ?_
       refine aw_ret ?_
       refine then_r ?_
       refine ret1 (.inr rfl) (by kernel_rfl) (resV_tmp s6_7) (.ro _ rfl) ?_
       clear s6_7 mo2_3 mo1_3 mo0_3 ml_3
       (first | rfl | (refine avb ?_; simp only [decide_eq_true_eq, Bool.false_eq_true, Bool.and_eq_true, true_iff, false_iff, iff_false, iff_true]; omega) | (simp; omega)))
  · (first | replace hq_6 := bnt hq_6 | replace hq_6 := bnf hq_6 | replace hq_6 := bt hq_6 | replace hq_6 := bf hq_6 | replace hq_6 := bt' hq_6 | replace hq_6 := bf' hq_6 | skip)
    first
    | (cases hq_6; done) | (exfalso; omega)
    | (
       refine aw_skip ?_
       refine then_n ?_
       refine aw_seq ?_
       refine aw_seq ?_
       refine aw_cut (fun e mem => (evA e (.tmp 27) = .v (.bool (decide (¬ (nm.size ≤ 30 ∧ ps.length ≤ 14) ∨ ¬ (nb.size ≤ 30 ∧ qs.length ≤ 14))))) ∧ (evA e (.tmp 3) = evA e_5 (.tmp 3)) ∧ (evA e (.tmp 4) = evA e_5 (.tmp 4)) ∧ (evA e (.tmp 5) = evA e_5 (.tmp 5)) ∧ m_3 = mem) ?_ ?_
       ·
         refine aw_text (by kernel_rfl) ?_
         refine al_ro' (ro_eq (ro_ld_ptr k39_ty24 rfl mo0_3 s3_5 (by first | exact Nat.le_of_ble_eq_true rfl | omega | (simp only [lnS] <;> omega) | (simp <;> omega))) (by first | (simp only [packA_t, packA_f, iE, bE, setAt, cellsA, Value.cells, map_vc, map_vn, Nat.reduceAdd, qS] <;> rfl) | rfl)) trivial rfl ?_
         refine al_ro' (ro_call (evL_cons up_h evL_nil) rfl (short_ok nm ps) k39_hcf16) trivial rfl ?_
         refine al_ro' (ro_not up_h) trivial rfl ?_
         refine al_ro' (ro_move up_h) trivial rfl ?_
         refine al_case up_h (fun hb_9 hq_9 => ?_) (fun hb_9 hq_9 => ?_)
         · (first | replace hq_9 := bnt hq_9 | replace hq_9 := bnf hq_9 | replace hq_9 := bt hq_9 | replace hq_9 := bf hq_9 | replace hq_9 := bt' hq_9 | replace hq_9 := bf' hq_9 | skip)
           first
           | (cases hq_9; done) | (exfalso; omega)
           | (
              refine al_skip' ⟨_, rfl, .inl hb_9⟩ rfl ?_
              refine al_skip' ⟨_, rfl, .inl (up_m rfl hb_9)⟩ rfl ?_
              refine al_skip' ⟨_, rfl, .inl (u2 rfl hb_9)⟩ rfl ?_
              refine al_skip' ⟨_, rfl, .inl (up_m rfl (u2 rfl hb_9))⟩ rfl ?_
              refine al_ro' (ro_pickT (u4 rfl hb_9) ev_c) trivial rfl ?_
              refine al_end (fun e_10 he_10 => ?_)
              have s3_10 := ef 3 he_10 (up_m rfl (u8 rfl s3_5))
              have s4_10 := ef 4 he_10 (up_m rfl (u8 rfl s4_5))
              have s5_10 := ef 5 he_10 (up_m rfl (u8 rfl s5_5))
              have s27_10 := ef 27 he_10 up_h
              clear he_10
              refine then_n ⟨(s27_10).trans (by (refine avb ?_; simp only [decide_eq_true_eq, Bool.false_eq_true, true_iff, false_iff, Bool.not_eq_true', decide_eq_false_iff_not]; omega)), (s3_10).trans (s3_5).symm, (s4_10).trans (s4_5).symm, (s5_10).trans (s5_5).symm, rfl⟩)
         · (first | replace hq_9 := bnt hq_9 | replace hq_9 := bnf hq_9 | replace hq_9 := bt hq_9 | replace hq_9 := bf hq_9 | replace hq_9 := bt' hq_9 | replace hq_9 := bf' hq_9 | skip)
           first
           | (cases hq_9; done) | (exfalso; omega)
           | (
              refine al_ro' (ro_fld_ptr k39_fl72_1 rfl (u4 rfl s5_5)) ⟨_, rfl, hb_9⟩ rfl ?_
              refine al_ro' (ro_eq (ro_ld_ptr k39_ty24 rfl mo2_3 up_h (by first | exact Nat.le_of_ble_eq_true rfl | omega | (simp only [lnS] <;> omega) | (simp <;> omega))) (by first | (simp only [packA_t, packA_f, iE, bE, setAt, cellsA, Value.cells, map_vc, map_vn, Nat.reduceAdd, qS] <;> rfl) | rfl)) ⟨_, rfl, (up_m rfl hb_9)⟩ rfl ?_
              refine al_ro' (ro_call (evL_cons up_h evL_nil) rfl (short_ok nb qs) k39_hcf16) ⟨_, rfl, (u2 rfl hb_9)⟩ rfl ?_
              refine al_ro' (ro_not up_h) ⟨_, rfl, (up_m rfl (u2 rfl hb_9))⟩ rfl ?_
              refine al_ro' (ro_pickF (u4 rfl hb_9) up_h) trivial rfl ?_
              refine al_end (fun e_11 he_11 => ?_)
              have s3_11 := ef 3 he_11 (up_m rfl (u8 rfl s3_5))
              have s4_11 := ef 4 he_11 (up_m rfl (u8 rfl s4_5))
              have s5_11 := ef 5 he_11 (up_m rfl (u8 rfl s5_5))
              have s27_11 := ef 27 he_11 up_h
              clear he_11
              refine then_n ⟨(s27_11).trans (by (refine avb ?_; simp only [decide_eq_true_eq, Bool.false_eq_true, true_iff, false_iff, Bool.not_eq_true', decide_eq_false_iff_not]; omega)), (s3_11).trans (s3_5).symm, (s4_11).trans (s4_5).symm, (s5_11).trans (s5_5).symm, rfl⟩)
       · rintro e_8 _ ⟨s27_8, k3_8, k4_8, k5_8, rfl⟩
         have s3_8 := k3_8.trans s3_5
         have s4_8 := k4_8.trans s4_5
         have s5_8 := k5_8.trans s5_5
         refine aw_case s27_8 (fun hq_12 => ?_) (fun hq_12 => ?_)
         · (first | replace hq_12 := bnt hq_12 | replace hq_12 := bnf hq_12 | replace hq_12 := bt hq_12 | replace hq_12 := bf hq_12 | replace hq_12 := bt' hq_12 | replace hq_12 := bf' hq_12 | skip)
           first
           | (cases hq_12; done) | (exfalso; omega)
           | (
              refine aw_seq ?_
              refine aw_text (by kernel_rfl) ?_
              refine al_ro' (ro_assign ev_c) trivial rfl ?_
              refine al_end (fun e_13 he_13 => ?_)
              have s6_13 := ef 6 he_13 up_h
              clear he_13 s27_8 s3_8 s4_8 s5_8
              refine then_n ?_
              refine aw_ret ?_
              refine then_r ?_
              refine ret1 (.inr rfl) (by kernel_rfl) (resV_tmp s6_13) (.ro _ rfl) ?_
              clear s6_13 mo2_3 mo1_3 mo0_3 ml_3
              (first | rfl | (refine avb ?_; simp only [decide_eq_true_eq, Bool.false_eq_true, Bool.and_eq_true, true_iff, false_iff, iff_false, iff_true]; omega) | (simp; omega)))
         · (first | replace hq_12 := bnt hq_12 | replace hq_12 := bnf hq_12 | replace hq_12 := bt hq_12 | replace hq_12 := bf hq_12 | replace hq_12 := bt' hq_12 | replace hq_12 := bf' hq_12 | skip)
           first
           | (cases hq_12; done) | (exfalso; omega)
           | (
              refine aw_skip ?_
              refine then_n ?_
              refine aw_seq ?_
              refine aw_drawK 11 1 ml_3 (by kernel_rfl) (by kernel_rfl) (by kernel_rfl) (by kernel_rfl) (fun m_14 hm_14 => ?_)
              have mo2_14 := m_room_o hm_14 mo2_3
              have mo1_14 := m_room_o hm_14 mo1_3
              have mo0_14 := m_room_o hm_14 mo0_3
              have mo3_14 : m_14[3]? = _ := m_room_g hm_14 ml_3 0 rfl rfl
              have ml_14 : _ = 4 := m_room_l hm_14 ml_3
              clear hm_14 mo2_3 mo1_3 mo0_3 ml_3
              refine dh_ld (0) (fun M_ hM_ => (ro_eq (ro_ld_ptr k39_ty24 rfl (agr hM_ mo0_14 (by simp)) s3_8 (by first | exact Nat.le_of_ble_eq_true rfl | omega | (simp only [lnS] <;> omega) | (simp <;> omega))) (by first | (simp only [packA_t, packA_f, iE, bE, setAt, cellsA, Value.cells, map_vc, map_vn, Nat.reduceAdd, qS] <;> rfl) | rfl))) trivial trivial ?_
              first | refine dh_ro (fun M_ hM_ => (ro_call (evL_cons up_h evL_nil) rfl (rCopy_ok nm ps (by omega)) k39_hcf18)) trivial ?_ | refine dh_ro (fun M_ hM_ => (ro_call (evL_cons up_h evL_nil) rfl (rCopy_ok nb qs (by omega)) k39_hcf18)) trivial ?_
              refine dh_ld (1) (fun M_ hM_ => (ro_eq (ro_ld_ptr k39_ty26 rfl (agr hM_ mo1_14 (by simp)) (u2 rfl s4_8) (by first | exact Nat.le_of_ble_eq_true rfl | omega | (simp only [lnS] <;> omega) | (simp <;> omega))) (by first | (simp only [packA_t, packA_f, iE, bE, setAt, cellsA, Value.cells, map_vc, map_vn, Nat.reduceAdd, qS] <;> rfl) | rfl))) trivial trivial ?_
              refine dh_ro (fun M_ hM_ => (ro_fld_ptr k39_fl72_0 rfl (up_m rfl (u2 rfl s5_8)))) trivial ?_
              refine dh_ld (2) (fun M_ hM_ => (ro_eq (ro_ld_ptr k39_ty42 rfl (agr hM_ mo2_14 (by simp)) up_h (by first | exact Nat.le_of_ble_eq_true rfl | omega | (simp only [lnS] <;> omega) | (simp <;> omega))) (by first | (simp only [packA_t, packA_f, iE, bE, setAt, cellsA, Value.cells, map_vc, map_vn, Nat.reduceAdd, qS] <;> rfl) | rfl))) trivial trivial ?_
              refine dh_ro (fun M_ hM_ => (ro_call (evL_cons (up_m rfl (u2 rfl up_h)) (evL_cons (u2 rfl up_h) (evL_cons up_h evL_nil))) rfl (stands1_ok nm ps (by omega) (by omega) b d v post sq) k39_hcf40)) trivial ?_
              refine dh_ro (fun M_ hM_ => (ro_move up_h)) trivial ?_
              refine dh_ro (fun M_ hM_ => (ro_extract up_h rfl)) trivial ?_
              refine dh_ro (fun M_ hM_ => (ro_extract (up_m rfl up_h) rfl)) trivial ?_
              refine dh_nw (3) (fun M_ hM_ => (nw_alloc k39_az68 rfl)) trivial mo3_14 rfl trivial ⟨.inl (by simp <;> omega), ⟨.inl (by simp <;> omega), ⟨.inl (by simp <;> omega), trivial⟩⟩⟩ (fun m_15 hm_15 => ?_)
              have mo3_15 := m_set hm_15 mo3_14
              (try simp only [packA_t, packA_f, iE, bE, setAt, cellsA, Value.cells, map_vc, map_vn, Nat.reduceAdd, qS] at mo3_15)
              have mo2_15 := m_set_o hm_15 mo2_14 (by decide)
              have mo1_15 := m_set_o hm_15 mo1_14 (by decide)
              have mo0_15 := m_set_o hm_15 mo0_14 (by decide)
              have ml_15 := m_set_l hm_15 ml_14
              clear hm_15 mo2_14 mo1_14 mo0_14 mo3_14
              refine dh_set (3) (fun M_ hM_ => (se_store up_h (u2 rfl up_h) rfl rfl (agr hM_ mo3_15 (by simp)) k39_sz68 rfl (by first | exact Nat.le_of_ble_eq_true rfl | omega | (simp only [lnS] <;> omega) | (simp <;> omega)))) trivial ⟨.inr (wt_one 10 9 (by kernel_rfl)), trivial⟩ ⟨.inl (by simp <;> omega), ⟨.inl (by simp <;> omega), ⟨.inl (by simp <;> omega), ⟨.inr (wt_one 10 9 (by kernel_rfl)), trivial⟩⟩⟩⟩ (fun m_16 hm_16 => ?_)
              have mo3_16 := m_set hm_16 mo3_15
              (try simp only [packA_t, packA_f, iE, bE, setAt, cellsA, Value.cells, map_vc, map_vn, Nat.reduceAdd, qS] at mo3_16)
              have mo2_16 := m_set_o hm_16 mo2_15 (by decide)
              have mo1_16 := m_set_o hm_16 mo1_15 (by decide)
              have mo0_16 := m_set_o hm_16 mo0_15 (by decide)
              have ml_16 := m_set_l hm_16 ml_15
              clear hm_16 mo3_15 mo2_15 mo1_15 mo0_15
              refine dh_nil rfl ?_
              refine al_ro' (ro_assign (up_n (up_m rfl up_h))) trivial rfl ?_
              refine al_end (fun e_17 he_17 => ?_)
              have s3_17 := ef 3 he_17 (up_m rfl (up_n (u2 rfl (u8 rfl s3_8))))
              have s4_17 := ef 4 he_17 (up_m rfl (up_n (u2 rfl (u8 rfl s4_8))))
              have s5_17 := ef 5 he_17 (up_m rfl (up_n (u2 rfl (u8 rfl s5_8))))
              have s7_17 := ef 7 he_17 (up_m rfl (up_n up_h))
              have s8_17 := ef 8 he_17 up_h
              clear he_17 s27_8 s3_8 s4_8 s5_8
              refine then_n ?_
              refine aw_seq ?_
              refine aw_text (by kernel_rfl) ?_
              refine al_ro' (ro_eq (ro_ld_ptr k39_ty24 rfl mo0_16 s3_17 (by first | exact Nat.le_of_ble_eq_true rfl | omega | (simp only [lnS] <;> omega) | (simp <;> omega))) (by first | (simp only [packA_t, packA_f, iE, bE, setAt, cellsA, Value.cells, map_vc, map_vn, Nat.reduceAdd, qS] <;> rfl) | rfl)) trivial rfl ?_
              refine al_ro' (ro_eq (ro_ld_ptr k39_ty26 rfl mo1_16 (up_m rfl s4_17) (by first | exact Nat.le_of_ble_eq_true rfl | omega | (simp only [lnS] <;> omega) | (simp <;> omega))) (by first | (simp only [packA_t, packA_f, iE, bE, setAt, cellsA, Value.cells, map_vc, map_vn, Nat.reduceAdd, qS] <;> rfl) | rfl)) trivial rfl ?_
              refine al_ro' (ro_call (evL_cons (up_m rfl up_h) (evL_cons up_h evL_nil)) rfl (rBothErr_ok nm ps (by omega) (by omega) b d v) k39_hcf19) trivial rfl ?_
              refine al_ro' (ro_assign up_h) trivial rfl ?_
              refine al_end (fun e_18 he_18 => ?_)
              have s3_18 := ef 3 he_18 (u4 rfl s3_17)
              have s4_18 := ef 4 he_18 (u4 rfl s4_17)
              have s5_18 := ef 5 he_18 (u4 rfl s5_17)
              have s7_18 := ef 7 he_18 (u4 rfl s7_17)
              have s8_18 := ef 8 he_18 (u4 rfl s8_17)
              have s9_18 := ef 9 he_18 up_h
              clear he_18 s3_17 s4_17 s5_17 s7_17 s8_17
              refine then_n ?_
              refine aw_seq ?_
              refine aw_cut (fun e mem => (evA e (.tmp 9) = .v (.int .i64 (stE nm ps b d v post sq))) ∧ (evA e (.tmp 3) = evA e_18 (.tmp 3)) ∧ (evA e (.tmp 4) = evA e_18 (.tmp 4)) ∧ (evA e (.tmp 5) = evA e_18 (.tmp 5)) ∧ (evA e (.tmp 7) = evA e_18 (.tmp 7)) ∧ (evA e (.tmp 8) = evA e_18 (.tmp 8)) ∧ m_16 = mem) ?_ ?_
              ·
                refine aw_seq ?_
                refine aw_text (by kernel_rfl) ?_
                refine al_ro' (ro_move s9_18) trivial rfl ?_
                refine al_ro' (ro_eql up_h ev_c) trivial rfl ?_
                refine al_end (fun e_20 he_20 => ?_)
                have s3_20 := ef 3 he_20 (u2 rfl s3_18)
                have s4_20 := ef 4 he_20 (u2 rfl s4_18)
                have s5_20 := ef 5 he_20 (u2 rfl s5_18)
                have s7_20 := ef 7 he_20 (u2 rfl s7_18)
                have s8_20 := ef 8 he_20 (u2 rfl s8_18)
                have s9_20 := ef 9 he_20 (u2 rfl s9_18)
                have s41_20 := ef 41 he_20 up_h
                clear he_20
                refine then_n ?_
                refine aw_case s41_20 (fun hq_21 => ?_) (fun hq_21 => ?_)
                · (first | replace hq_21 := bnt hq_21 | replace hq_21 := bnf hq_21 | replace hq_21 := bt hq_21 | replace hq_21 := bf hq_21 | replace hq_21 := bt' hq_21 | replace hq_21 := bf' hq_21 | skip)
                  first
                  | (cases hq_21; done) | (exfalso; omega)
                  | (
                     refine aw_text (by kernel_rfl) ?_
                     refine al_ro' (ro_eq (ro_ld_ptr k39_ty24 rfl mo0_16 s3_20 (by first | exact Nat.le_of_ble_eq_true rfl | omega | (simp only [lnS] <;> omega) | (simp <;> omega))) (by first | (simp only [packA_t, packA_f, iE, bE, setAt, cellsA, Value.cells, map_vc, map_vn, Nat.reduceAdd, qS] <;> rfl) | rfl)) trivial rfl ?_
                     refine al_ro' (ro_fld_ptr k39_fl72_0 rfl (up_m rfl s5_20)) trivial rfl ?_
                     refine al_ro' (ro_eq (ro_ld_ptr k39_ty42 rfl mo2_16 up_h (by first | exact Nat.le_of_ble_eq_true rfl | omega | (simp only [lnS] <;> omega) | (simp <;> omega))) (by first | (simp only [packA_t, packA_f, iE, bE, setAt, cellsA, Value.cells, map_vc, map_vn, Nat.reduceAdd, qS] <;> rfl) | rfl)) trivial rfl ?_
                     refine al_ro' (ro_call (evL_cons (u2 rfl up_h) (evL_cons up_h evL_nil)) rfl (rStateErr_ok nm ps post sq) k39_hcf25) trivial rfl ?_
                     refine al_ro' (ro_assign up_h) trivial rfl ?_
                     refine al_end (fun e_22 he_22 => ?_)
                     have s3_22 := ef 3 he_22 (up_m rfl (u4 rfl s3_20))
                     have s4_22 := ef 4 he_22 (up_m rfl (u4 rfl s4_20))
                     have s5_22 := ef 5 he_22 (up_m rfl (u4 rfl s5_20))
                     have s7_22 := ef 7 he_22 (up_m rfl (u4 rfl s7_20))
                     have s8_22 := ef 8 he_22 (up_m rfl (u4 rfl s8_20))
                     have s9_22 := ef 9 he_22 up_h
                     clear he_22
                     refine then_n ⟨(s9_22).trans (by (refine avi ?_; rw [stE_ite]; first | rw [if_pos (by assumption)] | rw [if_neg (by assumption)])), (s3_22).trans (s3_18).symm, (s4_22).trans (s4_18).symm, (s5_22).trans (s5_18).symm, (s7_22).trans (s7_18).symm, (s8_22).trans (s8_18).symm, rfl⟩)
                · (first | replace hq_21 := bnt hq_21 | replace hq_21 := bnf hq_21 | replace hq_21 := bt hq_21 | replace hq_21 := bf hq_21 | replace hq_21 := bt' hq_21 | replace hq_21 := bf' hq_21 | skip)
                  first
                  | (cases hq_21; done) | (exfalso; omega)
                  | (
                     refine aw_skip ?_
                     refine then_n ⟨(s9_20).trans (by (refine avi ?_; rw [stE_ite]; first | rw [if_pos (by assumption)] | rw [if_neg (by assumption)])), (s3_20).trans (s3_18).symm, (s4_20).trans (s4_18).symm, (s5_20).trans (s5_18).symm, (s7_20).trans (s7_18).symm, (s8_20).trans (s8_18).symm, rfl⟩)
              · rintro e_19 _ ⟨s9_19, k3_19, k4_19, k5_19, k7_19, k8_19, rfl⟩
                have s3_19 := k3_19.trans s3_18
                have s4_19 := k4_19.trans s4_18
                have s5_19 := k5_19.trans s5_18
                have s7_19 := k7_19.trans s7_18
                have s8_19 := k8_19.trans s8_18
                refine aw_seq ?_
                refine aw_text (by kernel_rfl) ?_
                refine al_stm (st_alloc k39_az68 rfl ml_16) trivial rfl (fun m_23 hm_23 => ?_)
                have mo4_23 := m_push hm_23 ml_16
                (try simp only [packA_t, packA_f, iE, bE, setAt, cellsA, Value.cells, map_vc, map_vn, Nat.reduceAdd, qS] at mo4_23)
                have mo3_23 := m_push_o hm_23 mo3_16
                have mo2_23 := m_push_o hm_23 mo2_16
                have mo1_23 := m_push_o hm_23 mo1_16
                have mo0_23 := m_push_o hm_23 mo0_16
                have ml_23 := m_push_l hm_23 ml_16
                have ml_23 : _ = 5 := ml_23
                clear hm_23 mo3_16 mo2_16 mo1_16 mo0_16
                refine al_end (fun e_24 he_24 => ?_)
                have s3_24 := ef 3 he_24 (up_m rfl s3_19)
                have s4_24 := ef 4 he_24 (up_m rfl s4_19)
                have s5_24 := ef 5 he_24 (up_m rfl s5_19)
                have s7_24 := ef 7 he_24 (up_m rfl s7_19)
                have s8_24 := ef 8 he_24 (up_m rfl s8_19)
                have s9_24 := ef 9 he_24 (up_m rfl s9_19)
                have s10_24 := ef 10 he_24 up_h
                clear he_24 s3_19 s4_19 s5_19 s7_19 s8_19 s9_19
                refine then_n ?_
                refine aw_seq ?_
                refine aw_seq ?_
                refine aw_text (by kernel_rfl) ?_
                refine al_ro' (ro_move s9_24) trivial rfl ?_
                refine al_ro' (ro_eql up_h ev_c) trivial rfl ?_
                refine al_end (fun e_25 he_25 => ?_)
                have s3_25 := ef 3 he_25 (u2 rfl s3_24)
                have s4_25 := ef 4 he_25 (u2 rfl s4_24)
                have s5_25 := ef 5 he_25 (u2 rfl s5_24)
                have s7_25 := ef 7 he_25 (u2 rfl s7_24)
                have s8_25 := ef 8 he_25 (u2 rfl s8_24)
                have s9_25 := ef 9 he_25 (u2 rfl s9_24)
                have s10_25 := ef 10 he_25 (u2 rfl s10_24)
                have s47_25 := ef 47 he_25 up_h
                clear he_25 s10_24 s3_24 s4_24 s5_24 s7_24 s8_24 s9_24
                refine then_n ?_
                refine aw_case s47_25 (fun hq_26 => ?_) (fun hq_26 => ?_)
                · (first | replace hq_26 := bnt hq_26 | replace hq_26 := bnf hq_26 | replace hq_26 := bt hq_26 | replace hq_26 := bf hq_26 | replace hq_26 := bt' hq_26 | replace hq_26 := bf' hq_26 | skip)
                  first
                  | (cases hq_26; done) | (exfalso; omega)
                  | (
                     (have hz : stE nm ps b d v post sq = 0 := (by assumption); have hR := stE_right hz; have hgd := sa_good hz; have htw := stW_two ps b post sq)
                     refine aw_seq ?_
                     refine aw_text (by kernel_rfl) ?_
                     refine al_ro' (ro_eq (ro_ld_ptr k39_ty24 rfl mo0_23 s3_25 (by first | exact Nat.le_of_ble_eq_true rfl | omega | (simp only [lnS] <;> omega) | (simp <;> omega))) (by first | (simp only [packA_t, packA_f, iE, bE, setAt, cellsA, Value.cells, map_vc, map_vn, Nat.reduceAdd, qS] <;> rfl) | rfl)) trivial rfl ?_
                     refine al_ro' (ro_eq (ro_ld_ptr k39_ty26 rfl mo1_23 (up_m rfl s4_25) (by first | exact Nat.le_of_ble_eq_true rfl | omega | (simp only [lnS] <;> omega) | (simp <;> omega))) (by first | (simp only [packA_t, packA_f, iE, bE, setAt, cellsA, Value.cells, map_vc, map_vn, Nat.reduceAdd, qS] <;> rfl) | rfl)) trivial rfl ?_
                     refine al_ro' (ro_fld_ptr k39_fl72_0 rfl (u2 rfl s5_25)) trivial rfl ?_
                     refine al_ro' (ro_eq (ro_ld_ptr k39_ty42 rfl mo2_23 up_h (by first | exact Nat.le_of_ble_eq_true rfl | omega | (simp only [lnS] <;> omega) | (simp <;> omega))) (by first | (simp only [packA_t, packA_f, iE, bE, setAt, cellsA, Value.cells, map_vc, map_vn, Nat.reduceAdd, qS] <;> rfl) | rfl)) trivial rfl ?_
                     refine al_ro' (ro_call (evL_cons (up_m rfl (u2 rfl up_h)) (evL_cons (u2 rfl up_h) (evL_cons up_h evL_nil))) rfl (rStandsAt_ok nm ps hR.1 b d v hR.2.1 post sq hR.2.2.1 hR.2.2.2) k39_hcf41) trivial rfl ?_
                     refine al_ro' (ro_move up_h) trivial rfl ?_
                     refine al_ro' (ro_extract up_h rfl) trivial rfl ?_
                     refine al_ro' (ro_extract (up_m rfl up_h) rfl) trivial rfl ?_
                     refine al_stm (st_alloc k39_az68 rfl ml_23) trivial rfl (fun m_27 hm_27 => ?_)
                     have mo5_27 := m_push hm_27 ml_23
                     (try simp only [packA_t, packA_f, iE, bE, setAt, cellsA, Value.cells, map_vc, map_vn, Nat.reduceAdd, qS] at mo5_27)
                     have mo4_27 := m_push_o hm_27 mo4_23
                     have mo3_27 := m_push_o hm_27 mo3_23
                     have mo2_27 := m_push_o hm_27 mo2_23
                     have mo1_27 := m_push_o hm_27 mo1_23
                     have mo0_27 := m_push_o hm_27 mo0_23
                     have ml_27 := m_push_l hm_27 ml_23
                     have ml_27 : _ = 6 := ml_27
                     clear hm_27 mo4_23 mo3_23 mo2_23 mo1_23 mo0_23
                     refine al_stm (st_store up_h (u2 rfl up_h) rfl rfl mo5_27 k39_sz68 rfl (by first | exact Nat.le_of_ble_eq_true rfl | omega | (simp only [lnS] <;> omega) | (simp <;> omega))) trivial rfl (fun m_28 hm_28 => ?_)
                     have mo5_28 := m_set hm_28 mo5_27
                     (try simp only [packA_t, packA_f, iE, bE, setAt, cellsA, Value.cells, map_vc, map_vn, Nat.reduceAdd, qS] at mo5_28)
                     have mo4_28 := m_set_o hm_28 mo4_27 (by decide)
                     have mo3_28 := m_set_o hm_28 mo3_27 (by decide)
                     have mo2_28 := m_set_o hm_28 mo2_27 (by decide)
                     have mo1_28 := m_set_o hm_28 mo1_27 (by decide)
                     have mo0_28 := m_set_o hm_28 mo0_27 (by decide)
                     have ml_28 := m_set_l hm_28 ml_27
                     clear hm_28 mo5_27 mo4_27 mo3_27 mo2_27 mo1_27 mo0_27
                     refine al_ro' (ro_assign (up_n (up_m rfl up_h))) trivial rfl ?_
                     refine al_end (fun e_29 he_29 => ?_)
                     have s3_29 := ef 3 he_29 (up_m rfl (up_n (up_m rfl (u8 rfl s3_25))))
                     have s4_29 := ef 4 he_29 (up_m rfl (up_n (up_m rfl (u8 rfl s4_25))))
                     have s5_29 := ef 5 he_29 (up_m rfl (up_n (up_m rfl (u8 rfl s5_25))))
                     have s7_29 := ef 7 he_29 (up_m rfl (up_n (up_m rfl (u8 rfl s7_25))))
                     have s8_29 := ef 8 he_29 (up_m rfl (up_n (up_m rfl (u8 rfl s8_25))))
                     have s9_29 := ef 9 he_29 (up_m rfl (up_n (up_m rfl (u8 rfl s9_25))))
                     have s10_29 := ef 10 he_29 (up_m rfl (up_n (up_m rfl (u8 rfl s10_25))))
                     have s11_29 := ef 11 he_29 (up_m rfl (up_n up_h))
                     have s12_29 := ef 12 he_29 up_h
                     clear he_29 s10_25 s3_25 s47_25 s4_25 s5_25 s7_25 s8_25 s9_25
                     refine then_n ?_
                     refine aw_seq ?_
                     refine aw_text (by kernel_rfl) ?_
                     refine al_ro' (ro_eq (ro_ld_ptr k39_ty68 rfl mo5_28 s11_29 (by first | exact Nat.le_of_ble_eq_true rfl | omega | (simp only [lnS] <;> omega) | (simp <;> omega))) (by first | (simp only [packA_t, packA_f, iE, bE, setAt, cellsA, Value.cells, map_vc, map_vn, Nat.reduceAdd, qS] <;> rfl) | rfl)) trivial rfl ?_
                     refine al_stm (st_store (up_m rfl s10_29) up_h rfl rfl mo4_28 k39_sz68 rfl (by first | exact Nat.le_of_ble_eq_true rfl | omega | (simp only [lnS] <;> omega) | (simp <;> omega))) trivial rfl (fun m_30 hm_30 => ?_)
                     have mo4_30 := m_set hm_30 mo4_28
                     (try simp only [packA_t, packA_f, iE, bE, setAt, cellsA, Value.cells, map_vc, map_vn, Nat.reduceAdd, qS] at mo4_30)
                     have mo5_30 := m_set_o hm_30 mo5_28 (by decide)
                     have mo3_30 := m_set_o hm_30 mo3_28 (by decide)
                     have mo2_30 := m_set_o hm_30 mo2_28 (by decide)
                     have mo1_30 := m_set_o hm_30 mo1_28 (by decide)
                     have mo0_30 := m_set_o hm_30 mo0_28 (by decide)
                     have ml_30 := m_set_l hm_30 ml_28
                     clear hm_30 mo5_28 mo4_28 mo3_28 mo2_28 mo1_28 mo0_28
                     refine al_end (fun e_31 he_31 => ?_)
                     have s3_31 := ef 3 he_31 (up_n (up_m rfl s3_29))
                     have s4_31 := ef 4 he_31 (up_n (up_m rfl s4_29))
                     have s5_31 := ef 5 he_31 (up_n (up_m rfl s5_29))
                     have s7_31 := ef 7 he_31 (up_n (up_m rfl s7_29))
                     have s8_31 := ef 8 he_31 (up_n (up_m rfl s8_29))
                     have s9_31 := ef 9 he_31 (up_n (up_m rfl s9_29))
                     have s10_31 := ef 10 he_31 (up_n (up_m rfl s10_29))
                     have s12_31 := ef 12 he_31 (up_n (up_m rfl s12_29))
                     clear he_31 s10_29 s11_29 s12_29 s3_29 s4_29 s5_29 s7_29 s8_29 s9_29
                     refine then_n ?_
                     refine aw_seq ?_
                     refine aw_text (by kernel_rfl) ?_
                     refine al_ro' (ro_move s12_31) trivial rfl ?_
                     refine al_ro' (ro_not up_h) trivial rfl ?_
                     refine al_end (fun e_32 he_32 => ?_)
                     have s3_32 := ef 3 he_32 (u2 rfl s3_31)
                     have s4_32 := ef 4 he_32 (u2 rfl s4_31)
                     have s5_32 := ef 5 he_32 (u2 rfl s5_31)
                     have s7_32 := ef 7 he_32 (u2 rfl s7_31)
                     have s8_32 := ef 8 he_32 (u2 rfl s8_31)
                     have s9_32 := ef 9 he_32 (u2 rfl s9_31)
                     have s10_32 := ef 10 he_32 (u2 rfl s10_31)
                     have s58_32 := ef 58 he_32 up_h
                     clear he_32 s10_31 s12_31 s3_31 s4_31 s5_31 s7_31 s8_31 s9_31
                     refine then_n ?_
                     refine aw_case s58_32 (fun hq_33 => ?_) (fun hq_33 => ?_)
                     · (first | replace hq_33 := bnt hq_33 | replace hq_33 := bnf hq_33 | replace hq_33 := bt hq_33 | replace hq_33 := bf hq_33 | replace hq_33 := bt' hq_33 | replace hq_33 := bf' hq_33 | skip)
                       first
                       | (cases hq_33; done) | (exfalso; omega)
                       | (
                          (have h12 : (stW ps b post sq).2 = 12 ∧ (stW ps b post sq).1 = (0, 0) := (by rcases htw with h | h; (exfalso; omega); exact h); have h13 : (stW ps b post sq).1.1 = 0 ∧ (stW ps b post sq).1.2 = 0 := (by rw [h12.2]; exact ⟨rfl, rfl⟩); have h14 := h12.1; clear h12)
                          refine aw_text (by kernel_rfl) ?_
                          refine al_ro' (ro_assign ev_c) trivial rfl ?_
                          refine al_end (fun e_34 he_34 => ?_)
                          have s3_34 := ef 3 he_34 (up_m rfl s3_32)
                          have s4_34 := ef 4 he_34 (up_m rfl s4_32)
                          have s5_34 := ef 5 he_34 (up_m rfl s5_32)
                          have s7_34 := ef 7 he_34 (up_m rfl s7_32)
                          have s8_34 := ef 8 he_34 (up_m rfl s8_32)
                          have s9_34 := ef 9 he_34 up_h
                          have s10_34 := ef 10 he_34 (up_m rfl s10_32)
                          clear he_34 s10_32 s3_32 s4_32 s58_32 s5_32 s7_32 s8_32 s9_32
                          refine then_n ?_
                          refine aw_seq ?_
                          refine aw_seq ?_
                          refine aw_cut (fun e mem => (evA e (.tmp 66) = .v (.bool false)) ∧ (evA e (.tmp 3) = evA e_34 (.tmp 3)) ∧ (evA e (.tmp 4) = evA e_34 (.tmp 4)) ∧ (evA e (.tmp 5) = evA e_34 (.tmp 5)) ∧ (evA e (.tmp 7) = evA e_34 (.tmp 7)) ∧ (evA e (.tmp 8) = evA e_34 (.tmp 8)) ∧ m_30 = mem) ?_ ?_
                          ·
                            refine aw_text (by kernel_rfl) ?_
                            refine al_ro' (ro_move s8_34) trivial rfl ?_
                            refine al_ro' (ro_move (up_m rfl s9_34)) trivial rfl ?_
                            refine al_ro' (ro_neq (up_m rfl up_h) up_h) trivial rfl ?_
                            refine al_ro' (ro_move up_h) trivial rfl ?_
                            refine al_case up_h (fun hb_36 hq_36 => ?_) (fun hb_36 hq_36 => ?_)
                            · (first | replace hq_36 := bnt hq_36 | replace hq_36 := bnf hq_36 | replace hq_36 := bt hq_36 | replace hq_36 := bf hq_36 | replace hq_36 := bt' hq_36 | replace hq_36 := bf' hq_36 | skip)
                              first
                              | (cases hq_36; done) | (exfalso; omega)
                              | (
                                 refine al_skip' ⟨_, rfl, .inl hb_36⟩ rfl ?_
                                 refine al_skip' ⟨_, rfl, .inl (up_m rfl hb_36)⟩ rfl ?_
                                 refine al_skip' ⟨_, rfl, .inl (u2 rfl hb_36)⟩ rfl ?_
                                 refine al_ro' (ro_pickT (up_m rfl (u2 rfl hb_36)) ev_c) trivial rfl ?_
                                 refine al_end (fun e_37 he_37 => ?_)
                                 have s3_37 := ef 3 he_37 (u8 rfl s3_34)
                                 have s4_37 := ef 4 he_37 (u8 rfl s4_34)
                                 have s5_37 := ef 5 he_37 (u8 rfl s5_34)
                                 have s7_37 := ef 7 he_37 (u8 rfl s7_34)
                                 have s8_37 := ef 8 he_37 (u8 rfl s8_34)
                                 have s66_37 := ef 66 he_37 up_h
                                 clear he_37
                                 refine then_n ⟨(s66_37).trans (by (first | rfl | (refine avb ?_; simp only [decide_eq_true_eq, Bool.false_eq_true, Bool.not_eq_true', Bool.and_eq_true, Bool.and_eq_false_imp, decide_eq_false_iff_not, true_iff, false_iff, iff_false, iff_true]; first | omega | exact fun hh => absurd (hh (by omega) (by omega)) (by decide)))), (s3_37).trans (s3_34).symm, (s4_37).trans (s4_34).symm, (s5_37).trans (s5_34).symm, (s7_37).trans (s7_34).symm, (s8_37).trans (s8_34).symm, rfl⟩)
                            · (first | replace hq_36 := bnt hq_36 | replace hq_36 := bnf hq_36 | replace hq_36 := bt hq_36 | replace hq_36 := bf hq_36 | replace hq_36 := bt' hq_36 | replace hq_36 := bf' hq_36 | skip)
                              first
                              | (cases hq_36; done) | (exfalso; omega)
                              | (
                                 refine al_ro' (ro_eq (ro_ld_ptr k39_ty68 rfl mo3_30 (u4 rfl s7_34) (by first | exact Nat.le_of_ble_eq_true rfl | omega | (simp only [lnS] <;> omega) | (simp <;> omega))) (by first | (simp only [packA_t, packA_f, iE, bE, setAt, cellsA, Value.cells, map_vc, map_vn, Nat.reduceAdd, qS] <;> rfl) | rfl)) ⟨_, rfl, hb_36⟩ rfl ?_
                                 refine al_ro' (ro_eq (ro_ld_ptr k39_ty68 rfl mo4_30 (up_m rfl (u4 rfl s10_34)) (by first | exact Nat.le_of_ble_eq_true rfl | omega | (simp only [lnS] <;> omega) | (simp <;> omega))) (by first | (simp only [packA_t, packA_f, iE, bE, setAt, cellsA, Value.cells, map_vc, map_vn, Nat.reduceAdd, qS] <;> rfl) | rfl)) ⟨_, rfl, (up_m rfl hb_36)⟩ rfl ?_
                                 refine al_ro' (ro_sqneq (up_m rfl up_h) up_h rfl rfl k39_gq68 k39_sq68 (by decide)) ⟨_, rfl, (u2 rfl hb_36)⟩ rfl ?_
                                 refine al_ro' (ro_pickF (up_m rfl (u2 rfl hb_36)) up_h) trivial rfl ?_
                                 refine al_end (fun e_38 he_38 => ?_)
                                 have s3_38 := ef 3 he_38 (u8 rfl s3_34)
                                 have s4_38 := ef 4 he_38 (u8 rfl s4_34)
                                 have s5_38 := ef 5 he_38 (u8 rfl s5_34)
                                 have s7_38 := ef 7 he_38 (u8 rfl s7_34)
                                 have s8_38 := ef 8 he_38 (u8 rfl s8_34)
                                 have s66_38 := ef 66 he_38 up_h
                                 clear he_38
                                 refine then_n ⟨(s66_38).trans (by (first | rfl | (refine avb ?_; simp only [decide_eq_true_eq, Bool.false_eq_true, Bool.not_eq_true', Bool.and_eq_true, Bool.and_eq_false_imp, decide_eq_false_iff_not, true_iff, false_iff, iff_false, iff_true]; first | omega | exact fun hh => absurd (hh (by omega) (by omega)) (by decide)))), (s3_38).trans (s3_34).symm, (s4_38).trans (s4_34).symm, (s5_38).trans (s5_34).symm, (s7_38).trans (s7_34).symm, (s8_38).trans (s8_34).symm, rfl⟩)
                          · rintro e_35 _ ⟨s66_35, k3_35, k4_35, k5_35, k7_35, k8_35, rfl⟩
                            have s3_35 := k3_35.trans s3_34
                            have s4_35 := k4_35.trans s4_34
                            have s5_35 := k5_35.trans s5_34
                            have s7_35 := k7_35.trans s7_34
                            have s8_35 := k8_35.trans s8_34
                            refine aw_case s66_35 (fun hq_39 => ?_) (fun hq_39 => ?_)
                            · (first | replace hq_39 := bnt hq_39 | replace hq_39 := bnf hq_39 | replace hq_39 := bt hq_39 | replace hq_39 := bf hq_39 | replace hq_39 := bt' hq_39 | replace hq_39 := bf' hq_39 | skip)
                              first
                              | (cases hq_39; done) | (exfalso; omega)
                              | (
                                 refine aw_seq ?_
                                 refine aw_text (by kernel_rfl) ?_
                                 refine al_ro' (ro_assign ev_c) trivial rfl ?_
                                 refine al_end (fun e_40 he_40 => ?_)
                                 have s6_40 := ef 6 he_40 up_h
                                 clear he_40 s3_35 s4_35 s5_35 s66_35 s7_35 s8_35
                                 refine then_n ?_
                                 refine aw_ret ?_
                                 refine then_r ?_
                                 refine ret1 (.inr rfl) (by kernel_rfl) (resV_tmp s6_40) (.ro _ rfl) ?_
                                 clear s6_40 mo4_30 mo5_30 mo3_30 mo2_30 mo1_30 mo0_30 ml_30
                                 (first | rfl | (refine avb ?_; simp only [decide_eq_true_eq, Bool.false_eq_true, Bool.and_eq_true, true_iff, false_iff, iff_false, iff_true]; omega) | (simp; omega)))
                            · (first | replace hq_39 := bnt hq_39 | replace hq_39 := bnf hq_39 | replace hq_39 := bt hq_39 | replace hq_39 := bf hq_39 | replace hq_39 := bt' hq_39 | replace hq_39 := bf' hq_39 | skip)
                              first
                              | (cases hq_39; done) | (exfalso; omega)
                              | (
                                 refine aw_skip ?_
                                 refine then_n ?_
                                 refine aw_seq ?_
                                 refine aw_drawK 11 1 ml_30 (by kernel_rfl) (by kernel_rfl) (by kernel_rfl) (by kernel_rfl) (fun m_41 hm_41 => ?_)
                                 have mo4_41 := m_room_o hm_41 mo4_30
                                 have mo5_41 := m_room_o hm_41 mo5_30
                                 have mo3_41 := m_room_o hm_41 mo3_30
                                 have mo2_41 := m_room_o hm_41 mo2_30
                                 have mo1_41 := m_room_o hm_41 mo1_30
                                 have mo0_41 := m_room_o hm_41 mo0_30
                                 have mo6_41 : m_41[6]? = _ := m_room_g hm_41 ml_30 0 rfl rfl
                                 have ml_41 : _ = 7 := m_room_l hm_41 ml_30
                                 clear hm_41 mo4_30 mo5_30 mo3_30 mo2_30 mo1_30 mo0_30 ml_30
                                 refine dh_ld (0) (fun M_ hM_ => (ro_eq (ro_ld_ptr k39_ty24 rfl (agr hM_ mo0_41 (by simp)) s3_35 (by first | exact Nat.le_of_ble_eq_true rfl | omega | (simp only [lnS] <;> omega) | (simp <;> omega))) (by first | (simp only [packA_t, packA_f, iE, bE, setAt, cellsA, Value.cells, map_vc, map_vn, Nat.reduceAdd, qS] <;> rfl) | rfl))) trivial trivial ?_
                                 first | refine dh_ro (fun M_ hM_ => (ro_call (evL_cons up_h evL_nil) rfl (rCopy_ok nm ps (by omega)) k39_hcf18)) trivial ?_ | refine dh_ro (fun M_ hM_ => (ro_call (evL_cons up_h evL_nil) rfl (rCopy_ok nb qs (by omega)) k39_hcf18)) trivial ?_
                                 refine dh_ro (fun M_ hM_ => (ro_fld_ptr k39_fl72_1 rfl (u2 rfl s5_35))) trivial ?_
                                 refine dh_ld (2) (fun M_ hM_ => (ro_eq (ro_ld_ptr k39_ty24 rfl (agr hM_ mo2_41 (by simp)) up_h (by first | exact Nat.le_of_ble_eq_true rfl | omega | (simp only [lnS] <;> omega) | (simp <;> omega))) (by first | (simp only [packA_t, packA_f, iE, bE, setAt, cellsA, Value.cells, map_vc, map_vn, Nat.reduceAdd, qS] <;> rfl) | rfl))) trivial trivial ?_
                                 first | refine dh_ro (fun M_ hM_ => (ro_call (evL_cons up_h evL_nil) rfl (rCopy_ok nm ps (by omega)) k39_hcf18)) trivial ?_ | refine dh_ro (fun M_ hM_ => (ro_call (evL_cons up_h evL_nil) rfl (rCopy_ok nb qs (by omega)) k39_hcf18)) trivial ?_
                                 refine dh_ro (fun M_ hM_ => (ro_call (evL_cons (up_m rfl (u2 rfl up_h)) (evL_cons up_h evL_nil)) rfl (joined1_ok nm ps nb qs (by omega) (by omega) (by omega) (by omega)) k39_hcf42)) trivial ?_
                                 refine dh_ro (fun M_ hM_ => (ro_move up_h)) trivial ?_
                                 refine dh_ro (fun M_ hM_ => (ro_extract up_h rfl)) trivial ?_
                                 refine dh_ro (fun M_ hM_ => (ro_extract (up_m rfl up_h) rfl)) trivial ?_
                                 refine dh_nw (6) (fun M_ hM_ => (nw_alloc k39_az24 rfl)) trivial mo6_41 rfl trivial ⟨.inl (by simp <;> omega), ⟨.inl (by simp <;> omega), trivial⟩⟩ (fun m_42 hm_42 => ?_)
                                 have mo6_42 := m_set hm_42 mo6_41
                                 (try simp only [packA_t, packA_f, iE, bE, setAt, cellsA, Value.cells, map_vc, map_vn, Nat.reduceAdd, qS] at mo6_42)
                                 have mo4_42 := m_set_o hm_42 mo4_41 (by decide)
                                 have mo5_42 := m_set_o hm_42 mo5_41 (by decide)
                                 have mo3_42 := m_set_o hm_42 mo3_41 (by decide)
                                 have mo2_42 := m_set_o hm_42 mo2_41 (by decide)
                                 have mo1_42 := m_set_o hm_42 mo1_41 (by decide)
                                 have mo0_42 := m_set_o hm_42 mo0_41 (by decide)
                                 have ml_42 := m_set_l hm_42 ml_41
                                 clear hm_42 mo4_41 mo5_41 mo3_41 mo2_41 mo1_41 mo0_41 mo6_41
                                 refine dh_set (6) (fun M_ hM_ => (se_store up_h (u2 rfl up_h) rfl rfl (agr hM_ mo6_42 (by simp)) k39_sz24 rfl (by first | exact Nat.le_of_ble_eq_true rfl | omega | (simp only [lnS] <;> omega) | (simp <;> omega)))) trivial ⟨.inr (wt_one 10 9 (by kernel_rfl)), trivial⟩ ⟨.inl (by simp <;> omega), ⟨.inl (by simp <;> omega), ⟨.inr (wt_one 10 9 (by kernel_rfl)), trivial⟩⟩⟩ (fun m_43 hm_43 => ?_)
                                 have mo6_43 := m_set hm_43 mo6_42
                                 (try simp only [packA_t, packA_f, iE, bE, setAt, cellsA, Value.cells, map_vc, map_vn, Nat.reduceAdd, qS] at mo6_43)
                                 have mo4_43 := m_set_o hm_43 mo4_42 (by decide)
                                 have mo5_43 := m_set_o hm_43 mo5_42 (by decide)
                                 have mo3_43 := m_set_o hm_43 mo3_42 (by decide)
                                 have mo2_43 := m_set_o hm_43 mo2_42 (by decide)
                                 have mo1_43 := m_set_o hm_43 mo1_42 (by decide)
                                 have mo0_43 := m_set_o hm_43 mo0_42 (by decide)
                                 have ml_43 := m_set_l hm_43 ml_42
                                 clear hm_43 mo6_42 mo4_42 mo5_42 mo3_42 mo2_42 mo1_42 mo0_42
                                 refine dh_nil rfl ?_
                                 refine al_ro' (ro_assign (up_n (up_m rfl up_h))) trivial rfl ?_
                                 refine al_end (fun e_44 he_44 => ?_)
                                 have s4_44 := ef 4 he_44 (up_m rfl (up_n (u2 rfl (u8 rfl s4_35))))
                                 have s5_44 := ef 5 he_44 (up_m rfl (up_n (u2 rfl (u8 rfl s5_35))))
                                 have s7_44 := ef 7 he_44 (up_m rfl (up_n (u2 rfl (u8 rfl s7_35))))
                                 have s8_44 := ef 8 he_44 (up_m rfl (up_n (u2 rfl (u8 rfl s8_35))))
                                 have s13_44 := ef 13 he_44 (up_m rfl (up_n up_h))
                                 have s14_44 := ef 14 he_44 up_h
                                 clear he_44 s3_35 s4_35 s5_35 s66_35 s7_35 s8_35
                                 refine then_n ?_
                                 refine aw_seq ?_
                                 refine aw_seq ?_
                                 refine aw_text (by kernel_rfl) ?_
                                 refine al_ro' (ro_move s8_44) trivial rfl ?_
                                 refine al_ro' (ro_neq up_h ev_c) trivial rfl ?_
                                 refine al_ro' (ro_move up_h) trivial rfl ?_
                                 refine al_case up_h (fun hb_45 hq_45 => ?_) (fun hb_45 hq_45 => ?_)
                                 · (first | replace hq_45 := bnt hq_45 | replace hq_45 := bnf hq_45 | replace hq_45 := bt hq_45 | replace hq_45 := bf hq_45 | replace hq_45 := bt' hq_45 | replace hq_45 := bf' hq_45 | skip)
                                   first
                                   | (cases hq_45; done) | (exfalso; omega)
                                   | (
                                      refine al_skip' ⟨_, rfl, .inl hb_45⟩ rfl ?_
                                      refine al_skip' ⟨_, rfl, .inl (up_m rfl hb_45)⟩ rfl ?_
                                      refine al_ro' (ro_pickT (u2 rfl hb_45) ev_c) trivial rfl ?_
                                      refine al_end (fun e_46 he_46 => ?_)
                                      have s4_46 := ef 4 he_46 (u2 rfl (u4 rfl s4_44))
                                      have s5_46 := ef 5 he_46 (u2 rfl (u4 rfl s5_44))
                                      have s7_46 := ef 7 he_46 (u2 rfl (u4 rfl s7_44))
                                      have s13_46 := ef 13 he_46 (u2 rfl (u4 rfl s13_44))
                                      have s81_46 := ef 81 he_46 up_h
                                      clear he_46 hb_45 s13_44 s14_44 s4_44 s5_44 s7_44 s8_44
                                      refine then_n ?_
                                      refine aw_true s81_46 ?_
                                      refine aw_seq ?_
                                      refine aw_text (by kernel_rfl) ?_
                                      refine al_ro' (ro_assign ev_c) trivial rfl ?_
                                      refine al_end (fun e_48 he_48 => ?_)
                                      have s6_48 := ef 6 he_48 up_h
                                      clear he_48 s13_46 s4_46 s5_46 s7_46 s81_46
                                      refine then_n ?_
                                      refine aw_ret ?_
                                      refine then_r ?_
                                      refine ret1 (.inr rfl) (by kernel_rfl) (resV_tmp s6_48) (.ro _ rfl) ?_
                                      clear s6_48 mo6_43 mo4_43 mo5_43 mo3_43 mo2_43 mo1_43 mo0_43 ml_43
                                      (first | rfl | (refine avb ?_; simp only [decide_eq_true_eq, Bool.false_eq_true, Bool.and_eq_true, true_iff, false_iff, iff_false, iff_true]; omega) | (simp; omega)))
                                 · (first | replace hq_45 := bnt hq_45 | replace hq_45 := bnf hq_45 | replace hq_45 := bt hq_45 | replace hq_45 := bf hq_45 | replace hq_45 := bt' hq_45 | replace hq_45 := bf' hq_45 | skip)
                                   first
                                   | (cases hq_45; done) | (exfalso; omega)
                                   | (
                                      refine al_ro' (ro_move (up_m rfl (u2 rfl s14_44))) ⟨_, rfl, hb_45⟩ rfl ?_
                                      refine al_ro' (ro_neq up_h ev_c) ⟨_, rfl, (up_m rfl hb_45)⟩ rfl ?_
                                      refine al_ro' (ro_pickF (u2 rfl hb_45) up_h) trivial rfl ?_
                                      refine al_end (fun e_49 he_49 => ?_)
                                      have s4_49 := ef 4 he_49 (u2 rfl (u4 rfl s4_44))
                                      have s5_49 := ef 5 he_49 (u2 rfl (u4 rfl s5_44))
                                      have s7_49 := ef 7 he_49 (u2 rfl (u4 rfl s7_44))
                                      have s13_49 := ef 13 he_49 (u2 rfl (u4 rfl s13_44))
                                      have s81_49 := ef 81 he_49 up_h
                                      clear he_49 hb_45 s13_44 s14_44 s4_44 s5_44 s7_44 s8_44
                                      refine then_n ?_
                                      refine aw_case s81_49 (fun hq_50 => ?_) (fun hq_50 => ?_)
                                      · (first | replace hq_50 := bnt hq_50 | replace hq_50 := bnf hq_50 | replace hq_50 := bt hq_50 | replace hq_50 := bf hq_50 | replace hq_50 := bt' hq_50 | replace hq_50 := bf' hq_50 | skip)
                                        first
                                        | (cases hq_50; done) | (exfalso; omega)
                                        | (
                                           refine aw_seq ?_
                                           refine aw_text (by kernel_rfl) ?_
                                           refine al_ro' (ro_assign ev_c) trivial rfl ?_
                                           refine al_end (fun e_51 he_51 => ?_)
                                           have s6_51 := ef 6 he_51 up_h
                                           clear he_51 s13_49 s4_49 s5_49 s7_49 s81_49
                                           refine then_n ?_
                                           refine aw_ret ?_
                                           refine then_r ?_
                                           refine ret1 (.inr rfl) (by kernel_rfl) (resV_tmp s6_51) (.ro _ rfl) ?_
                                           clear s6_51 mo6_43 mo4_43 mo5_43 mo3_43 mo2_43 mo1_43 mo0_43 ml_43
                                           (first | rfl | (refine avb ?_; simp only [decide_eq_true_eq, Bool.false_eq_true, Bool.and_eq_true, true_iff, false_iff, iff_false, iff_true]; omega) | (simp; omega)))
                                      · (first | replace hq_50 := bnt hq_50 | replace hq_50 := bnf hq_50 | replace hq_50 := bt hq_50 | replace hq_50 := bf hq_50 | replace hq_50 := bt' hq_50 | replace hq_50 := bf' hq_50 | skip)
                                        first
                                        | (cases hq_50; done) | (exfalso; omega)
                                        | (
                                           refine aw_skip ?_
                                           refine then_n ?_
                                           refine aw_seq ?_
                                           refine aw_text (by kernel_rfl) ?_
                                           refine al_ro' (ro_eq (ro_ld_ptr k39_ty24 rfl mo6_43 s13_49 (by first | exact Nat.le_of_ble_eq_true rfl | omega | (simp only [lnS] <;> omega) | (simp <;> omega))) (by first | (simp only [packA_t, packA_f, iE, bE, setAt, cellsA, Value.cells, map_vc, map_vn, Nat.reduceAdd, qS] <;> rfl) | rfl)) trivial rfl ?_
                                           refine al_ro' (ro_eq (ro_ld_ptr k39_ty26 rfl mo1_43 (up_m rfl s4_49) (by first | exact Nat.le_of_ble_eq_true rfl | omega | (simp only [lnS] <;> omega) | (simp <;> omega))) (by first | (simp only [packA_t, packA_f, iE, bE, setAt, cellsA, Value.cells, map_vc, map_vn, Nat.reduceAdd, qS] <;> rfl) | rfl)) trivial rfl ?_
                                           refine al_ro' (ro_fld_ptr k39_fl72_0 rfl (u2 rfl s5_49)) trivial rfl ?_
                                           refine al_ro' (ro_eq (ro_ld_ptr k39_ty42 rfl mo2_43 up_h (by first | exact Nat.le_of_ble_eq_true rfl | omega | (simp only [lnS] <;> omega) | (simp <;> omega))) (by first | (simp only [packA_t, packA_f, iE, bE, setAt, cellsA, Value.cells, map_vc, map_vn, Nat.reduceAdd, qS] <;> rfl) | rfl)) trivial rfl ?_
                                           refine al_ro' (ro_call (evL_cons (up_m rfl (u2 rfl up_h)) (evL_cons (u2 rfl up_h) (evL_cons up_h evL_nil))) rfl (stands_join hz hz2 hj (by omega) (by omega) (by omega)) k39_hcf40) trivial rfl ?_
                                           refine al_ro' (ro_move up_h) trivial rfl ?_
                                           refine al_ro' (ro_extract up_h rfl) trivial rfl ?_
                                           refine al_ro' (ro_extract (up_m rfl up_h) rfl) trivial rfl ?_
                                           refine al_stm (st_alloc k39_az68 rfl ml_43) trivial rfl (fun m_52 hm_52 => ?_)
                                           have mo7_52 := m_push hm_52 ml_43
                                           (try simp only [packA_t, packA_f, iE, bE, setAt, cellsA, Value.cells, map_vc, map_vn, Nat.reduceAdd, qS] at mo7_52)
                                           have mo6_52 := m_push_o hm_52 mo6_43
                                           have mo4_52 := m_push_o hm_52 mo4_43
                                           have mo5_52 := m_push_o hm_52 mo5_43
                                           have mo3_52 := m_push_o hm_52 mo3_43
                                           have mo2_52 := m_push_o hm_52 mo2_43
                                           have mo1_52 := m_push_o hm_52 mo1_43
                                           have mo0_52 := m_push_o hm_52 mo0_43
                                           have ml_52 := m_push_l hm_52 ml_43
                                           have ml_52 : _ = 8 := ml_52
                                           clear hm_52 mo6_43 mo4_43 mo5_43 mo3_43 mo2_43 mo1_43 mo0_43
                                           refine al_stm (st_store up_h (u2 rfl up_h) rfl rfl mo7_52 k39_sz68 rfl (by first | exact Nat.le_of_ble_eq_true rfl | omega | (simp only [lnS] <;> omega) | (simp <;> omega))) trivial rfl (fun m_53 hm_53 => ?_)
                                           have mo7_53 := m_set hm_53 mo7_52
                                           (try simp only [packA_t, packA_f, iE, bE, setAt, cellsA, Value.cells, map_vc, map_vn, Nat.reduceAdd, qS] at mo7_53)
                                           have mo6_53 := m_set_o hm_53 mo6_52 (by decide)
                                           have mo4_53 := m_set_o hm_53 mo4_52 (by decide)
                                           have mo5_53 := m_set_o hm_53 mo5_52 (by decide)
                                           have mo3_53 := m_set_o hm_53 mo3_52 (by decide)
                                           have mo2_53 := m_set_o hm_53 mo2_52 (by decide)
                                           have mo1_53 := m_set_o hm_53 mo1_52 (by decide)
                                           have mo0_53 := m_set_o hm_53 mo0_52 (by decide)
                                           have ml_53 := m_set_l hm_53 ml_52
                                           clear hm_53 mo7_52 mo6_52 mo4_52 mo5_52 mo3_52 mo2_52 mo1_52 mo0_52
                                           refine al_ro' (ro_assign (up_n (up_m rfl up_h))) trivial rfl ?_
                                           refine al_end (fun e_54 he_54 => ?_)
                                           have s7_54 := ef 7 he_54 (up_m rfl (up_n (up_m rfl (u8 rfl s7_49))))
                                           have s15_54 := ef 15 he_54 (up_m rfl (up_n up_h))
                                           have s16_54 := ef 16 he_54 up_h
                                           clear he_54 s13_49 s4_49 s5_49 s7_49 s81_49
                                           refine then_n ?_
                                           refine aw_seq ?_
                                           refine aw_text (by kernel_rfl) ?_
                                           refine al_ro' (ro_move s16_54) trivial rfl ?_
                                           refine al_ro' (ro_eql up_h ev_c) trivial rfl ?_
                                           refine al_ro' (ro_move up_h) trivial rfl ?_
                                           refine al_case up_h (fun hb_55 hq_55 => ?_) (fun hb_55 hq_55 => ?_)
                                           · (first | replace hq_55 := bnt hq_55 | replace hq_55 := bnf hq_55 | replace hq_55 := bt hq_55 | replace hq_55 := bf hq_55 | replace hq_55 := bt' hq_55 | replace hq_55 := bf' hq_55 | skip)
                                             first
                                             | (cases hq_55; done) | (exfalso; omega)
                                             | (
                                                refine al_ro' (ro_eq (ro_ld_ptr k39_ty68 rfl mo7_53 (up_m rfl (u2 rfl s15_54)) (by first | exact Nat.le_of_ble_eq_true rfl | omega | (simp only [lnS] <;> omega) | (simp <;> omega))) (by first | (simp only [packA_t, packA_f, iE, bE, setAt, cellsA, Value.cells, map_vc, map_vn, Nat.reduceAdd, qS] <;> rfl) | rfl)) ⟨_, rfl, hb_55⟩ rfl ?_
                                                refine al_ro' (ro_eq (ro_ld_ptr k39_ty68 rfl mo3_53 (u4 rfl s7_54) (by first | exact Nat.le_of_ble_eq_true rfl | omega | (simp only [lnS] <;> omega) | (simp <;> omega))) (by first | (simp only [packA_t, packA_f, iE, bE, setAt, cellsA, Value.cells, map_vc, map_vn, Nat.reduceAdd, qS] <;> rfl) | rfl)) ⟨_, rfl, (up_m rfl hb_55)⟩ rfl ?_
                                                refine al_ro' (ro_sqeql (up_m rfl up_h) up_h rfl rfl k39_gq68 k39_sq68 (by decide)) ⟨_, rfl, (u2 rfl hb_55)⟩ rfl ?_
                                                refine al_ro' (ro_pickT (up_m rfl (u2 rfl hb_55)) up_h) trivial rfl ?_
                                                refine al_ro' (ro_assign up_h) trivial rfl ?_
                                                refine al_end (fun e_56 he_56 => ?_)
                                                have s6_56 := ef 6 he_56 up_h
                                                clear he_56 hb_55 s15_54 s16_54 s7_54
                                                refine then_n ?_
                                                refine aw_ret ?_
                                                refine ret1 (.inr rfl) (by kernel_rfl) (resV_tmp s6_56) (.ro _ rfl) ?_
                                                clear s6_56 mo7_53 mo6_53 mo4_53 mo5_53 mo3_53 mo2_53 mo1_53 mo0_53 ml_53
                                                (first | rfl | (refine avb ?_; simp only [decide_eq_true_eq, Bool.false_eq_true, Bool.and_eq_true, true_iff, false_iff, iff_false, iff_true]; omega) | (simp; omega)))
                                           · (first | replace hq_55 := bnt hq_55 | replace hq_55 := bnf hq_55 | replace hq_55 := bt hq_55 | replace hq_55 := bf hq_55 | replace hq_55 := bt' hq_55 | replace hq_55 := bf' hq_55 | skip)
                                             first
                                             | (cases hq_55; done) | (exfalso; omega)
                                             | (
                                                refine al_skip' ⟨_, rfl, .inl hb_55⟩ rfl ?_
                                                refine al_skip' ⟨_, rfl, .inl (up_m rfl hb_55)⟩ rfl ?_
                                                refine al_skip' ⟨_, rfl, .inl (u2 rfl hb_55)⟩ rfl ?_
                                                refine al_ro' (ro_pickF (up_m rfl (u2 rfl hb_55)) ev_c) trivial rfl ?_
                                                refine al_ro' (ro_assign up_h) trivial rfl ?_
                                                refine al_end (fun e_57 he_57 => ?_)
                                                have s6_57 := ef 6 he_57 up_h
                                                clear he_57 hb_55 s15_54 s16_54 s7_54
                                                refine then_n ?_
                                                refine aw_ret ?_
                                                refine ret1 (.inr rfl) (by kernel_rfl) (resV_tmp s6_57) (.ro _ rfl) ?_
                                                clear s6_57 mo7_53 mo6_53 mo4_53 mo5_53 mo3_53 mo2_53 mo1_53 mo0_53 ml_53
                                                (first | rfl | (refine avb ?_; simp only [decide_eq_true_eq, Bool.false_eq_true, Bool.and_eq_true, true_iff, false_iff, iff_false, iff_true]; omega) | (simp; omega)))))))
                     · (first | replace hq_33 := bnt hq_33 | replace hq_33 := bnf hq_33 | replace hq_33 := bt hq_33 | replace hq_33 := bf hq_33 | replace hq_33 := bt' hq_33 | replace hq_33 := bf' hq_33 | skip)
                       first
                       | (cases hq_33; done) | (exfalso; omega)
                       | (
                          refine aw_skip ?_
                          refine then_n ?_
                          refine aw_seq ?_
                          refine aw_seq ?_
                          refine aw_cut (fun e mem => (evA e (.tmp 66) = .v (.bool false)) ∧ (evA e (.tmp 3) = evA e_32 (.tmp 3)) ∧ (evA e (.tmp 4) = evA e_32 (.tmp 4)) ∧ (evA e (.tmp 5) = evA e_32 (.tmp 5)) ∧ (evA e (.tmp 7) = evA e_32 (.tmp 7)) ∧ (evA e (.tmp 8) = evA e_32 (.tmp 8)) ∧ m_30 = mem) ?_ ?_
                          ·
                            refine aw_text (by kernel_rfl) ?_
                            refine al_ro' (ro_move s8_32) trivial rfl ?_
                            refine al_ro' (ro_move (up_m rfl s9_32)) trivial rfl ?_
                            refine al_ro' (ro_neq (up_m rfl up_h) up_h) trivial rfl ?_
                            refine al_ro' (ro_move up_h) trivial rfl ?_
                            refine al_case up_h (fun hb_59 hq_59 => ?_) (fun hb_59 hq_59 => ?_)
                            · (first | replace hq_59 := bnt hq_59 | replace hq_59 := bnf hq_59 | replace hq_59 := bt hq_59 | replace hq_59 := bf hq_59 | replace hq_59 := bt' hq_59 | replace hq_59 := bf' hq_59 | skip)
                              first
                              | (cases hq_59; done) | (exfalso; omega)
                              | (
                                 refine al_skip' ⟨_, rfl, .inl hb_59⟩ rfl ?_
                                 refine al_skip' ⟨_, rfl, .inl (up_m rfl hb_59)⟩ rfl ?_
                                 refine al_skip' ⟨_, rfl, .inl (u2 rfl hb_59)⟩ rfl ?_
                                 refine al_ro' (ro_pickT (up_m rfl (u2 rfl hb_59)) ev_c) trivial rfl ?_
                                 refine al_end (fun e_60 he_60 => ?_)
                                 have s3_60 := ef 3 he_60 (u8 rfl s3_32)
                                 have s4_60 := ef 4 he_60 (u8 rfl s4_32)
                                 have s5_60 := ef 5 he_60 (u8 rfl s5_32)
                                 have s7_60 := ef 7 he_60 (u8 rfl s7_32)
                                 have s8_60 := ef 8 he_60 (u8 rfl s8_32)
                                 have s66_60 := ef 66 he_60 up_h
                                 clear he_60
                                 refine then_n ⟨(s66_60).trans (by (first | rfl | (refine avb ?_; simp only [decide_eq_true_eq, Bool.false_eq_true, Bool.not_eq_true', Bool.and_eq_true, Bool.and_eq_false_imp, decide_eq_false_iff_not, true_iff, false_iff, iff_false, iff_true]; first | omega | exact fun hh => absurd (hh (by omega) (by omega)) (by decide)))), (s3_60).trans (s3_32).symm, (s4_60).trans (s4_32).symm, (s5_60).trans (s5_32).symm, (s7_60).trans (s7_32).symm, (s8_60).trans (s8_32).symm, rfl⟩)
                            · (first | replace hq_59 := bnt hq_59 | replace hq_59 := bnf hq_59 | replace hq_59 := bt hq_59 | replace hq_59 := bf hq_59 | replace hq_59 := bt' hq_59 | replace hq_59 := bf' hq_59 | skip)
                              first
                              | (cases hq_59; done) | (exfalso; omega)
                              | (
                                 refine al_ro' (ro_eq (ro_ld_ptr k39_ty68 rfl mo3_30 (u4 rfl s7_32) (by first | exact Nat.le_of_ble_eq_true rfl | omega | (simp only [lnS] <;> omega) | (simp <;> omega))) (by first | (simp only [packA_t, packA_f, iE, bE, setAt, cellsA, Value.cells, map_vc, map_vn, Nat.reduceAdd, qS] <;> rfl) | rfl)) ⟨_, rfl, hb_59⟩ rfl ?_
                                 refine al_ro' (ro_eq (ro_ld_ptr k39_ty68 rfl mo4_30 (up_m rfl (u4 rfl s10_32)) (by first | exact Nat.le_of_ble_eq_true rfl | omega | (simp only [lnS] <;> omega) | (simp <;> omega))) (by first | (simp only [packA_t, packA_f, iE, bE, setAt, cellsA, Value.cells, map_vc, map_vn, Nat.reduceAdd, qS] <;> rfl) | rfl)) ⟨_, rfl, (up_m rfl hb_59)⟩ rfl ?_
                                 refine al_ro' (ro_sqneq (up_m rfl up_h) up_h rfl rfl k39_gq68 k39_sq68 (by decide)) ⟨_, rfl, (u2 rfl hb_59)⟩ rfl ?_
                                 refine al_ro' (ro_pickF (up_m rfl (u2 rfl hb_59)) up_h) trivial rfl ?_
                                 refine al_end (fun e_61 he_61 => ?_)
                                 have s3_61 := ef 3 he_61 (u8 rfl s3_32)
                                 have s4_61 := ef 4 he_61 (u8 rfl s4_32)
                                 have s5_61 := ef 5 he_61 (u8 rfl s5_32)
                                 have s7_61 := ef 7 he_61 (u8 rfl s7_32)
                                 have s8_61 := ef 8 he_61 (u8 rfl s8_32)
                                 have s66_61 := ef 66 he_61 up_h
                                 clear he_61
                                 refine then_n ⟨(s66_61).trans (by (first | rfl | (refine avb ?_; simp only [decide_eq_true_eq, Bool.false_eq_true, Bool.not_eq_true', Bool.and_eq_true, Bool.and_eq_false_imp, decide_eq_false_iff_not, true_iff, false_iff, iff_false, iff_true]; first | omega | exact fun hh => absurd (hh (by omega) (by omega)) (by decide)))), (s3_61).trans (s3_32).symm, (s4_61).trans (s4_32).symm, (s5_61).trans (s5_32).symm, (s7_61).trans (s7_32).symm, (s8_61).trans (s8_32).symm, rfl⟩)
                          · rintro e_58 _ ⟨s66_58, k3_58, k4_58, k5_58, k7_58, k8_58, rfl⟩
                            have s3_58 := k3_58.trans s3_32
                            have s4_58 := k4_58.trans s4_32
                            have s5_58 := k5_58.trans s5_32
                            have s7_58 := k7_58.trans s7_32
                            have s8_58 := k8_58.trans s8_32
                            refine aw_case s66_58 (fun hq_62 => ?_) (fun hq_62 => ?_)
                            · (first | replace hq_62 := bnt hq_62 | replace hq_62 := bnf hq_62 | replace hq_62 := bt hq_62 | replace hq_62 := bf hq_62 | replace hq_62 := bt' hq_62 | replace hq_62 := bf' hq_62 | skip)
                              first
                              | (cases hq_62; done) | (exfalso; omega)
                              | (
                                 refine aw_seq ?_
                                 refine aw_text (by kernel_rfl) ?_
                                 refine al_ro' (ro_assign ev_c) trivial rfl ?_
                                 refine al_end (fun e_63 he_63 => ?_)
                                 have s6_63 := ef 6 he_63 up_h
                                 clear he_63 s3_58 s4_58 s5_58 s66_58 s7_58 s8_58
                                 refine then_n ?_
                                 refine aw_ret ?_
                                 refine then_r ?_
                                 refine ret1 (.inr rfl) (by kernel_rfl) (resV_tmp s6_63) (.ro _ rfl) ?_
                                 clear s6_63 mo4_30 mo5_30 mo3_30 mo2_30 mo1_30 mo0_30 ml_30
                                 (first | rfl | (refine avb ?_; simp only [decide_eq_true_eq, Bool.false_eq_true, Bool.and_eq_true, true_iff, false_iff, iff_false, iff_true]; omega) | (simp; omega)))
                            · (first | replace hq_62 := bnt hq_62 | replace hq_62 := bnf hq_62 | replace hq_62 := bt hq_62 | replace hq_62 := bf hq_62 | replace hq_62 := bt' hq_62 | replace hq_62 := bf' hq_62 | skip)
                              first
                              | (cases hq_62; done) | (exfalso; omega)
                              | (
                                 refine aw_skip ?_
                                 refine then_n ?_
                                 refine aw_seq ?_
                                 refine aw_drawK 11 1 ml_30 (by kernel_rfl) (by kernel_rfl) (by kernel_rfl) (by kernel_rfl) (fun m_64 hm_64 => ?_)
                                 have mo4_64 := m_room_o hm_64 mo4_30
                                 have mo5_64 := m_room_o hm_64 mo5_30
                                 have mo3_64 := m_room_o hm_64 mo3_30
                                 have mo2_64 := m_room_o hm_64 mo2_30
                                 have mo1_64 := m_room_o hm_64 mo1_30
                                 have mo0_64 := m_room_o hm_64 mo0_30
                                 have mo6_64 : m_64[6]? = _ := m_room_g hm_64 ml_30 0 rfl rfl
                                 have ml_64 : _ = 7 := m_room_l hm_64 ml_30
                                 clear hm_64 mo4_30 mo5_30 mo3_30 mo2_30 mo1_30 mo0_30 ml_30
                                 refine dh_ld (0) (fun M_ hM_ => (ro_eq (ro_ld_ptr k39_ty24 rfl (agr hM_ mo0_64 (by simp)) s3_58 (by first | exact Nat.le_of_ble_eq_true rfl | omega | (simp only [lnS] <;> omega) | (simp <;> omega))) (by first | (simp only [packA_t, packA_f, iE, bE, setAt, cellsA, Value.cells, map_vc, map_vn, Nat.reduceAdd, qS] <;> rfl) | rfl))) trivial trivial ?_
                                 first | refine dh_ro (fun M_ hM_ => (ro_call (evL_cons up_h evL_nil) rfl (rCopy_ok nm ps (by omega)) k39_hcf18)) trivial ?_ | refine dh_ro (fun M_ hM_ => (ro_call (evL_cons up_h evL_nil) rfl (rCopy_ok nb qs (by omega)) k39_hcf18)) trivial ?_
                                 refine dh_ro (fun M_ hM_ => (ro_fld_ptr k39_fl72_1 rfl (u2 rfl s5_58))) trivial ?_
                                 refine dh_ld (2) (fun M_ hM_ => (ro_eq (ro_ld_ptr k39_ty24 rfl (agr hM_ mo2_64 (by simp)) up_h (by first | exact Nat.le_of_ble_eq_true rfl | omega | (simp only [lnS] <;> omega) | (simp <;> omega))) (by first | (simp only [packA_t, packA_f, iE, bE, setAt, cellsA, Value.cells, map_vc, map_vn, Nat.reduceAdd, qS] <;> rfl) | rfl))) trivial trivial ?_
                                 first | refine dh_ro (fun M_ hM_ => (ro_call (evL_cons up_h evL_nil) rfl (rCopy_ok nm ps (by omega)) k39_hcf18)) trivial ?_ | refine dh_ro (fun M_ hM_ => (ro_call (evL_cons up_h evL_nil) rfl (rCopy_ok nb qs (by omega)) k39_hcf18)) trivial ?_
                                 refine dh_ro (fun M_ hM_ => (ro_call (evL_cons (up_m rfl (u2 rfl up_h)) (evL_cons up_h evL_nil)) rfl (joined1_ok nm ps nb qs (by omega) (by omega) (by omega) (by omega)) k39_hcf42)) trivial ?_
                                 refine dh_ro (fun M_ hM_ => (ro_move up_h)) trivial ?_
                                 refine dh_ro (fun M_ hM_ => (ro_extract up_h rfl)) trivial ?_
                                 refine dh_ro (fun M_ hM_ => (ro_extract (up_m rfl up_h) rfl)) trivial ?_
                                 refine dh_nw (6) (fun M_ hM_ => (nw_alloc k39_az24 rfl)) trivial mo6_64 rfl trivial ⟨.inl (by simp <;> omega), ⟨.inl (by simp <;> omega), trivial⟩⟩ (fun m_65 hm_65 => ?_)
                                 have mo6_65 := m_set hm_65 mo6_64
                                 (try simp only [packA_t, packA_f, iE, bE, setAt, cellsA, Value.cells, map_vc, map_vn, Nat.reduceAdd, qS] at mo6_65)
                                 have mo4_65 := m_set_o hm_65 mo4_64 (by decide)
                                 have mo5_65 := m_set_o hm_65 mo5_64 (by decide)
                                 have mo3_65 := m_set_o hm_65 mo3_64 (by decide)
                                 have mo2_65 := m_set_o hm_65 mo2_64 (by decide)
                                 have mo1_65 := m_set_o hm_65 mo1_64 (by decide)
                                 have mo0_65 := m_set_o hm_65 mo0_64 (by decide)
                                 have ml_65 := m_set_l hm_65 ml_64
                                 clear hm_65 mo4_64 mo5_64 mo3_64 mo2_64 mo1_64 mo0_64 mo6_64
                                 refine dh_set (6) (fun M_ hM_ => (se_store up_h (u2 rfl up_h) rfl rfl (agr hM_ mo6_65 (by simp)) k39_sz24 rfl (by first | exact Nat.le_of_ble_eq_true rfl | omega | (simp only [lnS] <;> omega) | (simp <;> omega)))) trivial ⟨.inr (wt_one 10 9 (by kernel_rfl)), trivial⟩ ⟨.inl (by simp <;> omega), ⟨.inl (by simp <;> omega), ⟨.inr (wt_one 10 9 (by kernel_rfl)), trivial⟩⟩⟩ (fun m_66 hm_66 => ?_)
                                 have mo6_66 := m_set hm_66 mo6_65
                                 (try simp only [packA_t, packA_f, iE, bE, setAt, cellsA, Value.cells, map_vc, map_vn, Nat.reduceAdd, qS] at mo6_66)
                                 have mo4_66 := m_set_o hm_66 mo4_65 (by decide)
                                 have mo5_66 := m_set_o hm_66 mo5_65 (by decide)
                                 have mo3_66 := m_set_o hm_66 mo3_65 (by decide)
                                 have mo2_66 := m_set_o hm_66 mo2_65 (by decide)
                                 have mo1_66 := m_set_o hm_66 mo1_65 (by decide)
                                 have mo0_66 := m_set_o hm_66 mo0_65 (by decide)
                                 have ml_66 := m_set_l hm_66 ml_65
                                 clear hm_66 mo6_65 mo4_65 mo5_65 mo3_65 mo2_65 mo1_65 mo0_65
                                 refine dh_nil rfl ?_
                                 refine al_ro' (ro_assign (up_n (up_m rfl up_h))) trivial rfl ?_
                                 refine al_end (fun e_67 he_67 => ?_)
                                 have s4_67 := ef 4 he_67 (up_m rfl (up_n (u2 rfl (u8 rfl s4_58))))
                                 have s5_67 := ef 5 he_67 (up_m rfl (up_n (u2 rfl (u8 rfl s5_58))))
                                 have s7_67 := ef 7 he_67 (up_m rfl (up_n (u2 rfl (u8 rfl s7_58))))
                                 have s8_67 := ef 8 he_67 (up_m rfl (up_n (u2 rfl (u8 rfl s8_58))))
                                 have s13_67 := ef 13 he_67 (up_m rfl (up_n up_h))
                                 have s14_67 := ef 14 he_67 up_h
                                 clear he_67 s3_58 s4_58 s5_58 s66_58 s7_58 s8_58
                                 refine then_n ?_
                                 refine aw_seq ?_
                                 refine aw_seq ?_
                                 refine aw_text (by kernel_rfl) ?_
                                 refine al_ro' (ro_move s8_67) trivial rfl ?_
                                 refine al_ro' (ro_neq up_h ev_c) trivial rfl ?_
                                 refine al_ro' (ro_move up_h) trivial rfl ?_
                                 refine al_case up_h (fun hb_68 hq_68 => ?_) (fun hb_68 hq_68 => ?_)
                                 · (first | replace hq_68 := bnt hq_68 | replace hq_68 := bnf hq_68 | replace hq_68 := bt hq_68 | replace hq_68 := bf hq_68 | replace hq_68 := bt' hq_68 | replace hq_68 := bf' hq_68 | skip)
                                   first
                                   | (cases hq_68; done) | (exfalso; omega)
                                   | (
                                      refine al_skip' ⟨_, rfl, .inl hb_68⟩ rfl ?_
                                      refine al_skip' ⟨_, rfl, .inl (up_m rfl hb_68)⟩ rfl ?_
                                      refine al_ro' (ro_pickT (u2 rfl hb_68) ev_c) trivial rfl ?_
                                      refine al_end (fun e_69 he_69 => ?_)
                                      have s4_69 := ef 4 he_69 (u2 rfl (u4 rfl s4_67))
                                      have s5_69 := ef 5 he_69 (u2 rfl (u4 rfl s5_67))
                                      have s7_69 := ef 7 he_69 (u2 rfl (u4 rfl s7_67))
                                      have s13_69 := ef 13 he_69 (u2 rfl (u4 rfl s13_67))
                                      have s81_69 := ef 81 he_69 up_h
                                      clear he_69 hb_68 s13_67 s14_67 s4_67 s5_67 s7_67 s8_67
                                      refine then_n ?_
                                      refine aw_true s81_69 ?_
                                      refine aw_seq ?_
                                      refine aw_text (by kernel_rfl) ?_
                                      refine al_ro' (ro_assign ev_c) trivial rfl ?_
                                      refine al_end (fun e_71 he_71 => ?_)
                                      have s6_71 := ef 6 he_71 up_h
                                      clear he_71 s13_69 s4_69 s5_69 s7_69 s81_69
                                      refine then_n ?_
                                      refine aw_ret ?_
                                      refine then_r ?_
                                      refine ret1 (.inr rfl) (by kernel_rfl) (resV_tmp s6_71) (.ro _ rfl) ?_
                                      clear s6_71 mo6_66 mo4_66 mo5_66 mo3_66 mo2_66 mo1_66 mo0_66 ml_66
                                      (first | rfl | (refine avb ?_; simp only [decide_eq_true_eq, Bool.false_eq_true, Bool.and_eq_true, true_iff, false_iff, iff_false, iff_true]; omega) | (simp; omega)))
                                 · (first | replace hq_68 := bnt hq_68 | replace hq_68 := bnf hq_68 | replace hq_68 := bt hq_68 | replace hq_68 := bf hq_68 | replace hq_68 := bt' hq_68 | replace hq_68 := bf' hq_68 | skip)
                                   first
                                   | (cases hq_68; done) | (exfalso; omega)
                                   | (
                                      refine al_ro' (ro_move (up_m rfl (u2 rfl s14_67))) ⟨_, rfl, hb_68⟩ rfl ?_
                                      refine al_ro' (ro_neq up_h ev_c) ⟨_, rfl, (up_m rfl hb_68)⟩ rfl ?_
                                      refine al_ro' (ro_pickF (u2 rfl hb_68) up_h) trivial rfl ?_
                                      refine al_end (fun e_72 he_72 => ?_)
                                      have s4_72 := ef 4 he_72 (u2 rfl (u4 rfl s4_67))
                                      have s5_72 := ef 5 he_72 (u2 rfl (u4 rfl s5_67))
                                      have s7_72 := ef 7 he_72 (u2 rfl (u4 rfl s7_67))
                                      have s13_72 := ef 13 he_72 (u2 rfl (u4 rfl s13_67))
                                      have s81_72 := ef 81 he_72 up_h
                                      clear he_72 hb_68 s13_67 s14_67 s4_67 s5_67 s7_67 s8_67
                                      refine then_n ?_
                                      refine aw_case s81_72 (fun hq_73 => ?_) (fun hq_73 => ?_)
                                      · (first | replace hq_73 := bnt hq_73 | replace hq_73 := bnf hq_73 | replace hq_73 := bt hq_73 | replace hq_73 := bf hq_73 | replace hq_73 := bt' hq_73 | replace hq_73 := bf' hq_73 | skip)
                                        first
                                        | (cases hq_73; done) | (exfalso; omega)
                                        | (
                                           refine aw_seq ?_
                                           refine aw_text (by kernel_rfl) ?_
                                           refine al_ro' (ro_assign ev_c) trivial rfl ?_
                                           refine al_end (fun e_74 he_74 => ?_)
                                           have s6_74 := ef 6 he_74 up_h
                                           clear he_74 s13_72 s4_72 s5_72 s7_72 s81_72
                                           refine then_n ?_
                                           refine aw_ret ?_
                                           refine then_r ?_
                                           refine ret1 (.inr rfl) (by kernel_rfl) (resV_tmp s6_74) (.ro _ rfl) ?_
                                           clear s6_74 mo6_66 mo4_66 mo5_66 mo3_66 mo2_66 mo1_66 mo0_66 ml_66
                                           (first | rfl | (refine avb ?_; simp only [decide_eq_true_eq, Bool.false_eq_true, Bool.and_eq_true, true_iff, false_iff, iff_false, iff_true]; omega) | (simp; omega)))
                                      · (first | replace hq_73 := bnt hq_73 | replace hq_73 := bnf hq_73 | replace hq_73 := bt hq_73 | replace hq_73 := bf hq_73 | replace hq_73 := bt' hq_73 | replace hq_73 := bf' hq_73 | skip)
                                        first
                                        | (cases hq_73; done) | (exfalso; omega)
                                        | (
                                           (have hj : jnE nm ps nb qs = 0 := (by omega); have hz2 : (stW ps b post sq).2 = 0 := (by omega))
                                           refine aw_skip ?_
                                           refine then_n ?_
                                           refine aw_seq ?_
                                           refine aw_text (by kernel_rfl) ?_
                                           refine al_ro' (ro_eq (ro_ld_ptr k39_ty24 rfl mo6_66 s13_72 (by first | exact Nat.le_of_ble_eq_true rfl | omega | (simp only [lnS] <;> omega) | (simp <;> omega))) (by first | (simp only [packA_t, packA_f, iE, bE, setAt, cellsA, Value.cells, map_vc, map_vn, Nat.reduceAdd, qS] <;> rfl) | rfl)) trivial rfl ?_
                                           refine al_ro' (ro_eq (ro_ld_ptr k39_ty26 rfl mo1_66 (up_m rfl s4_72) (by first | exact Nat.le_of_ble_eq_true rfl | omega | (simp only [lnS] <;> omega) | (simp <;> omega))) (by first | (simp only [packA_t, packA_f, iE, bE, setAt, cellsA, Value.cells, map_vc, map_vn, Nat.reduceAdd, qS] <;> rfl) | rfl)) trivial rfl ?_
                                           refine al_ro' (ro_fld_ptr k39_fl72_0 rfl (u2 rfl s5_72)) trivial rfl ?_
                                           refine al_ro' (ro_eq (ro_ld_ptr k39_ty42 rfl mo2_66 up_h (by first | exact Nat.le_of_ble_eq_true rfl | omega | (simp only [lnS] <;> omega) | (simp <;> omega))) (by first | (simp only [packA_t, packA_f, iE, bE, setAt, cellsA, Value.cells, map_vc, map_vn, Nat.reduceAdd, qS] <;> rfl) | rfl)) trivial rfl ?_
                                           refine al_ro' (ro_call (evL_cons (up_m rfl (u2 rfl up_h)) (evL_cons (u2 rfl up_h) (evL_cons up_h evL_nil))) rfl (stands_join hz hz2 hj (by omega) (by omega) (by omega)) k39_hcf40) trivial rfl ?_
                                           refine al_ro' (ro_move up_h) trivial rfl ?_
                                           refine al_ro' (ro_extract up_h rfl) trivial rfl ?_
                                           refine al_ro' (ro_extract (up_m rfl up_h) rfl) trivial rfl ?_
                                           refine al_stm (st_alloc k39_az68 rfl ml_66) trivial rfl (fun m_75 hm_75 => ?_)
                                           have mo7_75 := m_push hm_75 ml_66
                                           (try simp only [packA_t, packA_f, iE, bE, setAt, cellsA, Value.cells, map_vc, map_vn, Nat.reduceAdd, qS] at mo7_75)
                                           have mo6_75 := m_push_o hm_75 mo6_66
                                           have mo4_75 := m_push_o hm_75 mo4_66
                                           have mo5_75 := m_push_o hm_75 mo5_66
                                           have mo3_75 := m_push_o hm_75 mo3_66
                                           have mo2_75 := m_push_o hm_75 mo2_66
                                           have mo1_75 := m_push_o hm_75 mo1_66
                                           have mo0_75 := m_push_o hm_75 mo0_66
                                           have ml_75 := m_push_l hm_75 ml_66
                                           have ml_75 : _ = 8 := ml_75
                                           clear hm_75 mo6_66 mo4_66 mo5_66 mo3_66 mo2_66 mo1_66 mo0_66
                                           refine al_stm (st_store up_h (u2 rfl up_h) rfl rfl mo7_75 k39_sz68 rfl (by first | exact Nat.le_of_ble_eq_true rfl | omega | (simp only [lnS] <;> omega) | (simp <;> omega))) trivial rfl (fun m_76 hm_76 => ?_)
                                           have mo7_76 := m_set hm_76 mo7_75
                                           (try simp only [packA_t, packA_f, iE, bE, setAt, cellsA, Value.cells, map_vc, map_vn, Nat.reduceAdd, qS] at mo7_76)
                                           have mo6_76 := m_set_o hm_76 mo6_75 (by decide)
                                           have mo4_76 := m_set_o hm_76 mo4_75 (by decide)
                                           have mo5_76 := m_set_o hm_76 mo5_75 (by decide)
                                           have mo3_76 := m_set_o hm_76 mo3_75 (by decide)
                                           have mo2_76 := m_set_o hm_76 mo2_75 (by decide)
                                           have mo1_76 := m_set_o hm_76 mo1_75 (by decide)
                                           have mo0_76 := m_set_o hm_76 mo0_75 (by decide)
                                           have ml_76 := m_set_l hm_76 ml_75
                                           clear hm_76 mo7_75 mo6_75 mo4_75 mo5_75 mo3_75 mo2_75 mo1_75 mo0_75
                                           refine al_ro' (ro_assign (up_n (up_m rfl up_h))) trivial rfl ?_
                                           refine al_end (fun e_77 he_77 => ?_)
                                           have s7_77 := ef 7 he_77 (up_m rfl (up_n (up_m rfl (u8 rfl s7_72))))
                                           have s15_77 := ef 15 he_77 (up_m rfl (up_n up_h))
                                           have s16_77 := ef 16 he_77 up_h
                                           clear he_77 s13_72 s4_72 s5_72 s7_72 s81_72
                                           refine then_n ?_
                                           refine aw_seq ?_
                                           refine aw_text (by kernel_rfl) ?_
                                           refine al_ro' (ro_move s16_77) trivial rfl ?_
                                           refine al_ro' (ro_eql up_h ev_c) trivial rfl ?_
                                           refine al_ro' (ro_move up_h) trivial rfl ?_
                                           refine al_case up_h (fun hb_78 hq_78 => ?_) (fun hb_78 hq_78 => ?_)
                                           · (first | replace hq_78 := bnt hq_78 | replace hq_78 := bnf hq_78 | replace hq_78 := bt hq_78 | replace hq_78 := bf hq_78 | replace hq_78 := bt' hq_78 | replace hq_78 := bf' hq_78 | skip)
                                             first
                                             | (cases hq_78; done) | (exfalso; omega)
                                             | (
                                                refine al_ro' (ro_eq (ro_ld_ptr k39_ty68 rfl mo7_76 (up_m rfl (u2 rfl s15_77)) (by first | exact Nat.le_of_ble_eq_true rfl | omega | (simp only [lnS] <;> omega) | (simp <;> omega))) (by first | (simp only [packA_t, packA_f, iE, bE, setAt, cellsA, Value.cells, map_vc, map_vn, Nat.reduceAdd, qS] <;> rfl) | rfl)) ⟨_, rfl, hb_78⟩ rfl ?_
                                                refine al_ro' (ro_eq (ro_ld_ptr k39_ty68 rfl mo3_76 (u4 rfl s7_77) (by first | exact Nat.le_of_ble_eq_true rfl | omega | (simp only [lnS] <;> omega) | (simp <;> omega))) (by first | (simp only [packA_t, packA_f, iE, bE, setAt, cellsA, Value.cells, map_vc, map_vn, Nat.reduceAdd, qS] <;> rfl) | rfl)) ⟨_, rfl, (up_m rfl hb_78)⟩ rfl ?_
                                                refine al_ro' (ro_sqeql (up_m rfl up_h) up_h rfl rfl k39_gq68 k39_sq68 (by decide)) ⟨_, rfl, (u2 rfl hb_78)⟩ rfl ?_
                                                refine al_ro' (ro_pickT (up_m rfl (u2 rfl hb_78)) up_h) trivial rfl ?_
                                                refine al_ro' (ro_assign up_h) trivial rfl ?_
                                                refine al_end (fun e_79 he_79 => ?_)
                                                have s6_79 := ef 6 he_79 up_h
                                                clear he_79 hb_78 s15_77 s16_77 s7_77
                                                refine then_n ?_
                                                refine aw_ret ?_
                                                refine ret1 (.inr rfl) (by kernel_rfl) (resV_tmp s6_79) (.ro _ rfl) ?_
                                                clear s6_79 mo7_76 mo6_76 mo4_76 mo5_76 mo3_76 mo2_76 mo1_76 mo0_76 ml_76
                                                (first | rfl | (refine avb ?_; simp only [decide_eq_true_eq, Bool.false_eq_true, Bool.and_eq_true, true_iff, false_iff, iff_false, iff_true]; omega) | (simp; omega)))
                                           · (first | replace hq_78 := bnt hq_78 | replace hq_78 := bnf hq_78 | replace hq_78 := bt hq_78 | replace hq_78 := bf hq_78 | replace hq_78 := bt' hq_78 | replace hq_78 := bf' hq_78 | skip)
                                             first
                                             | (cases hq_78; done) | (exfalso; omega)
                                             | (
                                                refine al_skip' ⟨_, rfl, .inl hb_78⟩ rfl ?_
                                                refine al_skip' ⟨_, rfl, .inl (up_m rfl hb_78)⟩ rfl ?_
                                                refine al_skip' ⟨_, rfl, .inl (u2 rfl hb_78)⟩ rfl ?_
                                                refine al_ro' (ro_pickF (up_m rfl (u2 rfl hb_78)) ev_c) trivial rfl ?_
                                                refine al_ro' (ro_assign up_h) trivial rfl ?_
                                                refine al_end (fun e_80 he_80 => ?_)
                                                have s6_80 := ef 6 he_80 up_h
                                                clear he_80 hb_78 s15_77 s16_77 s7_77
                                                refine then_n ?_
                                                refine aw_ret ?_
                                                refine ret1 (.inr rfl) (by kernel_rfl) (resV_tmp s6_80) (.ro _ rfl) ?_
                                                clear s6_80 mo7_76 mo6_76 mo4_76 mo5_76 mo3_76 mo2_76 mo1_76 mo0_76 ml_76
                                                (first | rfl | (refine avb ?_; simp only [decide_eq_true_eq, Bool.false_eq_true, Bool.and_eq_true, true_iff, false_iff, iff_false, iff_true]; omega) | (simp; omega))))))))
                · (first | replace hq_26 := bnt hq_26 | replace hq_26 := bnf hq_26 | replace hq_26 := bt hq_26 | replace hq_26 := bf hq_26 | replace hq_26 := bt' hq_26 | replace hq_26 := bf' hq_26 | skip)
                  first
                  | (cases hq_26; done) | (exfalso; omega)
                  | (
                     (have hn : ¬ stE nm ps b d v post sq = 0 := (by assumption); have hbd := sa_bad hn)
                     refine aw_skip ?_
                     refine then_n ?_
                     refine aw_seq ?_
                     refine aw_seq ?_
                     refine aw_cut (fun e mem => (evA e (.tmp 66) = .v (.bool false)) ∧ (evA e (.tmp 3) = evA e_25 (.tmp 3)) ∧ (evA e (.tmp 4) = evA e_25 (.tmp 4)) ∧ (evA e (.tmp 5) = evA e_25 (.tmp 5)) ∧ (evA e (.tmp 7) = evA e_25 (.tmp 7)) ∧ (evA e (.tmp 8) = evA e_25 (.tmp 8)) ∧ m_23 = mem) ?_ ?_
                     ·
                       refine aw_text (by kernel_rfl) ?_
                       refine al_ro' (ro_move s8_25) trivial rfl ?_
                       refine al_ro' (ro_move (up_m rfl s9_25)) trivial rfl ?_
                       refine al_ro' (ro_neq (up_m rfl up_h) up_h) trivial rfl ?_
                       refine al_ro' (ro_move up_h) trivial rfl ?_
                       refine al_case up_h (fun hb_82 hq_82 => ?_) (fun hb_82 hq_82 => ?_)
                       · (first | replace hq_82 := bnt hq_82 | replace hq_82 := bnf hq_82 | replace hq_82 := bt hq_82 | replace hq_82 := bf hq_82 | replace hq_82 := bt' hq_82 | replace hq_82 := bf' hq_82 | skip)
                         first
                         | (cases hq_82; done) | (exfalso; omega)
                         | (
                            refine al_skip' ⟨_, rfl, .inl hb_82⟩ rfl ?_
                            refine al_skip' ⟨_, rfl, .inl (up_m rfl hb_82)⟩ rfl ?_
                            refine al_skip' ⟨_, rfl, .inl (u2 rfl hb_82)⟩ rfl ?_
                            refine al_ro' (ro_pickT (up_m rfl (u2 rfl hb_82)) ev_c) trivial rfl ?_
                            refine al_end (fun e_83 he_83 => ?_)
                            have s3_83 := ef 3 he_83 (u8 rfl s3_25)
                            have s4_83 := ef 4 he_83 (u8 rfl s4_25)
                            have s5_83 := ef 5 he_83 (u8 rfl s5_25)
                            have s7_83 := ef 7 he_83 (u8 rfl s7_25)
                            have s8_83 := ef 8 he_83 (u8 rfl s8_25)
                            have s66_83 := ef 66 he_83 up_h
                            clear he_83
                            refine then_n ⟨(s66_83).trans (by (first | rfl | (refine avb ?_; simp only [decide_eq_true_eq, Bool.false_eq_true, Bool.not_eq_true', Bool.and_eq_true, Bool.and_eq_false_imp, decide_eq_false_iff_not, true_iff, false_iff, iff_false, iff_true]; first | omega | exact fun hh => absurd (hh (by omega) (by omega)) (by decide)))), (s3_83).trans (s3_25).symm, (s4_83).trans (s4_25).symm, (s5_83).trans (s5_25).symm, (s7_83).trans (s7_25).symm, (s8_83).trans (s8_25).symm, rfl⟩)
                       · (first | replace hq_82 := bnt hq_82 | replace hq_82 := bnf hq_82 | replace hq_82 := bt hq_82 | replace hq_82 := bf hq_82 | replace hq_82 := bt' hq_82 | replace hq_82 := bf' hq_82 | skip)
                         first
                         | (cases hq_82; done) | (exfalso; omega)
                         | (
                            refine al_ro' (ro_eq (ro_ld_ptr k39_ty68 rfl mo3_23 (u4 rfl s7_25) (by first | exact Nat.le_of_ble_eq_true rfl | omega | (simp only [lnS] <;> omega) | (simp <;> omega))) (by first | (simp only [packA_t, packA_f, iE, bE, setAt, cellsA, Value.cells, map_vc, map_vn, Nat.reduceAdd, qS] <;> rfl) | rfl)) ⟨_, rfl, hb_82⟩ rfl ?_
                            refine al_ro' (ro_eq (ro_ld_ptr k39_ty68 rfl mo4_23 (up_m rfl (u4 rfl s10_25)) (by first | exact Nat.le_of_ble_eq_true rfl | omega | (simp only [lnS] <;> omega) | (simp <;> omega))) (by first | (simp only [packA_t, packA_f, iE, bE, setAt, cellsA, Value.cells, map_vc, map_vn, Nat.reduceAdd, qS] <;> rfl) | rfl)) ⟨_, rfl, (up_m rfl hb_82)⟩ rfl ?_
                            refine al_ro' (ro_sqneq (up_m rfl up_h) up_h rfl rfl k39_gq68 k39_sq68 (by decide)) ⟨_, rfl, (u2 rfl hb_82)⟩ rfl ?_
                            refine al_ro' (ro_pickF (up_m rfl (u2 rfl hb_82)) up_h) trivial rfl ?_
                            refine al_end (fun e_84 he_84 => ?_)
                            have s3_84 := ef 3 he_84 (u8 rfl s3_25)
                            have s4_84 := ef 4 he_84 (u8 rfl s4_25)
                            have s5_84 := ef 5 he_84 (u8 rfl s5_25)
                            have s7_84 := ef 7 he_84 (u8 rfl s7_25)
                            have s8_84 := ef 8 he_84 (u8 rfl s8_25)
                            have s66_84 := ef 66 he_84 up_h
                            clear he_84
                            refine then_n ⟨(s66_84).trans (by (first | rfl | (refine avb ?_; simp only [decide_eq_true_eq, Bool.false_eq_true, Bool.not_eq_true', Bool.and_eq_true, Bool.and_eq_false_imp, decide_eq_false_iff_not, true_iff, false_iff, iff_false, iff_true]; first | omega | exact fun hh => absurd (hh (by omega) (by omega)) (by decide)))), (s3_84).trans (s3_25).symm, (s4_84).trans (s4_25).symm, (s5_84).trans (s5_25).symm, (s7_84).trans (s7_25).symm, (s8_84).trans (s8_25).symm, rfl⟩)
                     · rintro e_81 _ ⟨s66_81, k3_81, k4_81, k5_81, k7_81, k8_81, rfl⟩
                       have s3_81 := k3_81.trans s3_25
                       have s4_81 := k4_81.trans s4_25
                       have s5_81 := k5_81.trans s5_25
                       have s7_81 := k7_81.trans s7_25
                       have s8_81 := k8_81.trans s8_25
                       refine aw_case s66_81 (fun hq_85 => ?_) (fun hq_85 => ?_)
                       · (first | replace hq_85 := bnt hq_85 | replace hq_85 := bnf hq_85 | replace hq_85 := bt hq_85 | replace hq_85 := bf hq_85 | replace hq_85 := bt' hq_85 | replace hq_85 := bf' hq_85 | skip)
                         first
                         | (cases hq_85; done) | (exfalso; omega)
                         | (
                            refine aw_seq ?_
                            refine aw_text (by kernel_rfl) ?_
                            refine al_ro' (ro_assign ev_c) trivial rfl ?_
                            refine al_end (fun e_86 he_86 => ?_)
                            have s6_86 := ef 6 he_86 up_h
                            clear he_86 s3_81 s4_81 s5_81 s66_81 s7_81 s8_81
                            refine then_n ?_
                            refine aw_ret ?_
                            refine then_r ?_
                            refine ret1 (.inr rfl) (by kernel_rfl) (resV_tmp s6_86) (.ro _ rfl) ?_
                            clear s6_86 mo4_23 mo3_23 mo2_23 mo1_23 mo0_23 ml_23
                            (first | rfl | (refine avb ?_; simp only [decide_eq_true_eq, Bool.false_eq_true, Bool.and_eq_true, true_iff, false_iff, iff_false, iff_true]; omega) | (simp; omega)))
                       · (first | replace hq_85 := bnt hq_85 | replace hq_85 := bnf hq_85 | replace hq_85 := bt hq_85 | replace hq_85 := bf hq_85 | replace hq_85 := bt' hq_85 | replace hq_85 := bf' hq_85 | skip)
                         first
                         | (cases hq_85; done) | (exfalso; omega)
                         | (
                            refine aw_skip ?_
                            refine then_n ?_
                            refine aw_seq ?_
                            refine aw_drawK 11 1 ml_23 (by kernel_rfl) (by kernel_rfl) (by kernel_rfl) (by kernel_rfl) (fun m_87 hm_87 => ?_)
                            have mo4_87 := m_room_o hm_87 mo4_23
                            have mo3_87 := m_room_o hm_87 mo3_23
                            have mo2_87 := m_room_o hm_87 mo2_23
                            have mo1_87 := m_room_o hm_87 mo1_23
                            have mo0_87 := m_room_o hm_87 mo0_23
                            have mo5_87 : m_87[5]? = _ := m_room_g hm_87 ml_23 0 rfl rfl
                            have ml_87 : _ = 6 := m_room_l hm_87 ml_23
                            clear hm_87 mo4_23 mo3_23 mo2_23 mo1_23 mo0_23 ml_23
                            refine dh_ld (0) (fun M_ hM_ => (ro_eq (ro_ld_ptr k39_ty24 rfl (agr hM_ mo0_87 (by simp)) s3_81 (by first | exact Nat.le_of_ble_eq_true rfl | omega | (simp only [lnS] <;> omega) | (simp <;> omega))) (by first | (simp only [packA_t, packA_f, iE, bE, setAt, cellsA, Value.cells, map_vc, map_vn, Nat.reduceAdd, qS] <;> rfl) | rfl))) trivial trivial ?_
                            first | refine dh_ro (fun M_ hM_ => (ro_call (evL_cons up_h evL_nil) rfl (rCopy_ok nm ps (by omega)) k39_hcf18)) trivial ?_ | refine dh_ro (fun M_ hM_ => (ro_call (evL_cons up_h evL_nil) rfl (rCopy_ok nb qs (by omega)) k39_hcf18)) trivial ?_
                            refine dh_ro (fun M_ hM_ => (ro_fld_ptr k39_fl72_1 rfl (u2 rfl s5_81))) trivial ?_
                            refine dh_ld (2) (fun M_ hM_ => (ro_eq (ro_ld_ptr k39_ty24 rfl (agr hM_ mo2_87 (by simp)) up_h (by first | exact Nat.le_of_ble_eq_true rfl | omega | (simp only [lnS] <;> omega) | (simp <;> omega))) (by first | (simp only [packA_t, packA_f, iE, bE, setAt, cellsA, Value.cells, map_vc, map_vn, Nat.reduceAdd, qS] <;> rfl) | rfl))) trivial trivial ?_
                            first | refine dh_ro (fun M_ hM_ => (ro_call (evL_cons up_h evL_nil) rfl (rCopy_ok nm ps (by omega)) k39_hcf18)) trivial ?_ | refine dh_ro (fun M_ hM_ => (ro_call (evL_cons up_h evL_nil) rfl (rCopy_ok nb qs (by omega)) k39_hcf18)) trivial ?_
                            refine dh_ro (fun M_ hM_ => (ro_call (evL_cons (up_m rfl (u2 rfl up_h)) (evL_cons up_h evL_nil)) rfl (joined1_ok nm ps nb qs (by omega) (by omega) (by omega) (by omega)) k39_hcf42)) trivial ?_
                            refine dh_ro (fun M_ hM_ => (ro_move up_h)) trivial ?_
                            refine dh_ro (fun M_ hM_ => (ro_extract up_h rfl)) trivial ?_
                            refine dh_ro (fun M_ hM_ => (ro_extract (up_m rfl up_h) rfl)) trivial ?_
                            refine dh_nw (5) (fun M_ hM_ => (nw_alloc k39_az24 rfl)) trivial mo5_87 rfl trivial ⟨.inl (by simp <;> omega), ⟨.inl (by simp <;> omega), trivial⟩⟩ (fun m_88 hm_88 => ?_)
                            have mo5_88 := m_set hm_88 mo5_87
                            (try simp only [packA_t, packA_f, iE, bE, setAt, cellsA, Value.cells, map_vc, map_vn, Nat.reduceAdd, qS] at mo5_88)
                            have mo4_88 := m_set_o hm_88 mo4_87 (by decide)
                            have mo3_88 := m_set_o hm_88 mo3_87 (by decide)
                            have mo2_88 := m_set_o hm_88 mo2_87 (by decide)
                            have mo1_88 := m_set_o hm_88 mo1_87 (by decide)
                            have mo0_88 := m_set_o hm_88 mo0_87 (by decide)
                            have ml_88 := m_set_l hm_88 ml_87
                            clear hm_88 mo4_87 mo3_87 mo2_87 mo1_87 mo0_87 mo5_87
                            refine dh_set (5) (fun M_ hM_ => (se_store up_h (u2 rfl up_h) rfl rfl (agr hM_ mo5_88 (by simp)) k39_sz24 rfl (by first | exact Nat.le_of_ble_eq_true rfl | omega | (simp only [lnS] <;> omega) | (simp <;> omega)))) trivial ⟨.inr (wt_one 10 9 (by kernel_rfl)), trivial⟩ ⟨.inl (by simp <;> omega), ⟨.inl (by simp <;> omega), ⟨.inr (wt_one 10 9 (by kernel_rfl)), trivial⟩⟩⟩ (fun m_89 hm_89 => ?_)
                            have mo5_89 := m_set hm_89 mo5_88
                            (try simp only [packA_t, packA_f, iE, bE, setAt, cellsA, Value.cells, map_vc, map_vn, Nat.reduceAdd, qS] at mo5_89)
                            have mo4_89 := m_set_o hm_89 mo4_88 (by decide)
                            have mo3_89 := m_set_o hm_89 mo3_88 (by decide)
                            have mo2_89 := m_set_o hm_89 mo2_88 (by decide)
                            have mo1_89 := m_set_o hm_89 mo1_88 (by decide)
                            have mo0_89 := m_set_o hm_89 mo0_88 (by decide)
                            have ml_89 := m_set_l hm_89 ml_88
                            clear hm_89 mo5_88 mo4_88 mo3_88 mo2_88 mo1_88 mo0_88
                            refine dh_nil rfl ?_
                            refine al_ro' (ro_assign (up_n (up_m rfl up_h))) trivial rfl ?_
                            refine al_end (fun e_90 he_90 => ?_)
                            have s4_90 := ef 4 he_90 (up_m rfl (up_n (u2 rfl (u8 rfl s4_81))))
                            have s5_90 := ef 5 he_90 (up_m rfl (up_n (u2 rfl (u8 rfl s5_81))))
                            have s7_90 := ef 7 he_90 (up_m rfl (up_n (u2 rfl (u8 rfl s7_81))))
                            have s8_90 := ef 8 he_90 (up_m rfl (up_n (u2 rfl (u8 rfl s8_81))))
                            have s13_90 := ef 13 he_90 (up_m rfl (up_n up_h))
                            have s14_90 := ef 14 he_90 up_h
                            clear he_90 s3_81 s4_81 s5_81 s66_81 s7_81 s8_81
                            refine then_n ?_
                            refine aw_seq ?_
                            refine aw_seq ?_
                            refine aw_text (by kernel_rfl) ?_
                            refine al_ro' (ro_move s8_90) trivial rfl ?_
                            refine al_ro' (ro_neq up_h ev_c) trivial rfl ?_
                            refine al_ro' (ro_move up_h) trivial rfl ?_
                            refine al_case up_h (fun hb_91 hq_91 => ?_) (fun hb_91 hq_91 => ?_)
                            · (first | replace hq_91 := bnt hq_91 | replace hq_91 := bnf hq_91 | replace hq_91 := bt hq_91 | replace hq_91 := bf hq_91 | replace hq_91 := bt' hq_91 | replace hq_91 := bf' hq_91 | skip)
                              first
                              | (cases hq_91; done) | (exfalso; omega)
                              | (
                                 refine al_skip' ⟨_, rfl, .inl hb_91⟩ rfl ?_
                                 refine al_skip' ⟨_, rfl, .inl (up_m rfl hb_91)⟩ rfl ?_
                                 refine al_ro' (ro_pickT (u2 rfl hb_91) ev_c) trivial rfl ?_
                                 refine al_end (fun e_92 he_92 => ?_)
                                 have s4_92 := ef 4 he_92 (u2 rfl (u4 rfl s4_90))
                                 have s5_92 := ef 5 he_92 (u2 rfl (u4 rfl s5_90))
                                 have s7_92 := ef 7 he_92 (u2 rfl (u4 rfl s7_90))
                                 have s13_92 := ef 13 he_92 (u2 rfl (u4 rfl s13_90))
                                 have s81_92 := ef 81 he_92 up_h
                                 clear he_92 hb_91 s13_90 s14_90 s4_90 s5_90 s7_90 s8_90
                                 refine then_n ?_
                                 refine aw_true s81_92 ?_
                                 refine aw_seq ?_
                                 refine aw_text (by kernel_rfl) ?_
                                 refine al_ro' (ro_assign ev_c) trivial rfl ?_
                                 refine al_end (fun e_94 he_94 => ?_)
                                 have s6_94 := ef 6 he_94 up_h
                                 clear he_94 s13_92 s4_92 s5_92 s7_92 s81_92
                                 refine then_n ?_
                                 refine aw_ret ?_
                                 refine then_r ?_
                                 refine ret1 (.inr rfl) (by kernel_rfl) (resV_tmp s6_94) (.ro _ rfl) ?_
                                 clear s6_94 mo5_89 mo4_89 mo3_89 mo2_89 mo1_89 mo0_89 ml_89
                                 (first | rfl | (refine avb ?_; simp only [decide_eq_true_eq, Bool.false_eq_true, Bool.and_eq_true, true_iff, false_iff, iff_false, iff_true]; omega) | (simp; omega)))
                            · (first | replace hq_91 := bnt hq_91 | replace hq_91 := bnf hq_91 | replace hq_91 := bt hq_91 | replace hq_91 := bf hq_91 | replace hq_91 := bt' hq_91 | replace hq_91 := bf' hq_91 | skip)
                              first
                              | (cases hq_91; done) | (exfalso; omega)
                              | (
                                 refine al_ro' (ro_move (up_m rfl (u2 rfl s14_90))) ⟨_, rfl, hb_91⟩ rfl ?_
                                 refine al_ro' (ro_neq up_h ev_c) ⟨_, rfl, (up_m rfl hb_91)⟩ rfl ?_
                                 refine al_ro' (ro_pickF (u2 rfl hb_91) up_h) trivial rfl ?_
                                 refine al_end (fun e_95 he_95 => ?_)
                                 have s4_95 := ef 4 he_95 (u2 rfl (u4 rfl s4_90))
                                 have s5_95 := ef 5 he_95 (u2 rfl (u4 rfl s5_90))
                                 have s7_95 := ef 7 he_95 (u2 rfl (u4 rfl s7_90))
                                 have s13_95 := ef 13 he_95 (u2 rfl (u4 rfl s13_90))
                                 have s81_95 := ef 81 he_95 up_h
                                 clear he_95 hb_91 s13_90 s14_90 s4_90 s5_90 s7_90 s8_90
                                 refine then_n ?_
                                 refine aw_case s81_95 (fun hq_96 => ?_) (fun hq_96 => ?_)
                                 · (first | replace hq_96 := bnt hq_96 | replace hq_96 := bnf hq_96 | replace hq_96 := bt hq_96 | replace hq_96 := bf hq_96 | replace hq_96 := bt' hq_96 | replace hq_96 := bf' hq_96 | skip)
                                   first
                                   | (cases hq_96; done) | (exfalso; omega)
                                   | (
                                      refine aw_seq ?_
                                      refine aw_text (by kernel_rfl) ?_
                                      refine al_ro' (ro_assign ev_c) trivial rfl ?_
                                      refine al_end (fun e_97 he_97 => ?_)
                                      have s6_97 := ef 6 he_97 up_h
                                      clear he_97 s13_95 s4_95 s5_95 s7_95 s81_95
                                      refine then_n ?_
                                      refine aw_ret ?_
                                      refine then_r ?_
                                      refine ret1 (.inr rfl) (by kernel_rfl) (resV_tmp s6_97) (.ro _ rfl) ?_
                                      clear s6_97 mo5_89 mo4_89 mo3_89 mo2_89 mo1_89 mo0_89 ml_89
                                      (first | rfl | (refine avb ?_; simp only [decide_eq_true_eq, Bool.false_eq_true, Bool.and_eq_true, true_iff, false_iff, iff_false, iff_true]; omega) | (simp; omega)))
                                 · (first | replace hq_96 := bnt hq_96 | replace hq_96 := bnf hq_96 | replace hq_96 := bt hq_96 | replace hq_96 := bf hq_96 | replace hq_96 := bt' hq_96 | replace hq_96 := bf' hq_96 | skip)
                                   first
                                   | (cases hq_96; done) | (exfalso; omega)
                                   | (
                                      refine aw_skip ?_
                                      refine then_n ?_
                                      refine aw_seq ?_
                                      refine aw_text (by kernel_rfl) ?_
                                      refine al_ro' (ro_eq (ro_ld_ptr k39_ty24 rfl mo5_89 s13_95 (by first | exact Nat.le_of_ble_eq_true rfl | omega | (simp only [lnS] <;> omega) | (simp <;> omega))) (by first | (simp only [packA_t, packA_f, iE, bE, setAt, cellsA, Value.cells, map_vc, map_vn, Nat.reduceAdd, qS] <;> rfl) | rfl)) trivial rfl ?_
                                      refine al_ro' (ro_eq (ro_ld_ptr k39_ty26 rfl mo1_89 (up_m rfl s4_95) (by first | exact Nat.le_of_ble_eq_true rfl | omega | (simp only [lnS] <;> omega) | (simp <;> omega))) (by first | (simp only [packA_t, packA_f, iE, bE, setAt, cellsA, Value.cells, map_vc, map_vn, Nat.reduceAdd, qS] <;> rfl) | rfl)) trivial rfl ?_
                                      refine al_ro' (ro_fld_ptr k39_fl72_0 rfl (u2 rfl s5_95)) trivial rfl ?_
                                      refine al_ro' (ro_eq (ro_ld_ptr k39_ty42 rfl mo2_89 up_h (by first | exact Nat.le_of_ble_eq_true rfl | omega | (simp only [lnS] <;> omega) | (simp <;> omega))) (by first | (simp only [packA_t, packA_f, iE, bE, setAt, cellsA, Value.cells, map_vc, map_vn, Nat.reduceAdd, qS] <;> rfl) | rfl)) trivial rfl ?_
                                      refine al_ro' (ro_call (evL_cons (up_m rfl (u2 rfl up_h)) (evL_cons (u2 rfl up_h) (evL_cons up_h evL_nil))) rfl (stands_join hz hz2 hj (by omega) (by omega) (by omega)) k39_hcf40) trivial rfl ?_
                                      refine al_ro' (ro_move up_h) trivial rfl ?_
                                      refine al_ro' (ro_extract up_h rfl) trivial rfl ?_
                                      refine al_ro' (ro_extract (up_m rfl up_h) rfl) trivial rfl ?_
                                      refine al_stm (st_alloc k39_az68 rfl ml_89) trivial rfl (fun m_98 hm_98 => ?_)
                                      have mo6_98 := m_push hm_98 ml_89
                                      (try simp only [packA_t, packA_f, iE, bE, setAt, cellsA, Value.cells, map_vc, map_vn, Nat.reduceAdd, qS] at mo6_98)
                                      have mo5_98 := m_push_o hm_98 mo5_89
                                      have mo4_98 := m_push_o hm_98 mo4_89
                                      have mo3_98 := m_push_o hm_98 mo3_89
                                      have mo2_98 := m_push_o hm_98 mo2_89
                                      have mo1_98 := m_push_o hm_98 mo1_89
                                      have mo0_98 := m_push_o hm_98 mo0_89
                                      have ml_98 := m_push_l hm_98 ml_89
                                      have ml_98 : _ = 7 := ml_98
                                      clear hm_98 mo5_89 mo4_89 mo3_89 mo2_89 mo1_89 mo0_89
                                      refine al_stm (st_store up_h (u2 rfl up_h) rfl rfl mo6_98 k39_sz68 rfl (by first | exact Nat.le_of_ble_eq_true rfl | omega | (simp only [lnS] <;> omega) | (simp <;> omega))) trivial rfl (fun m_99 hm_99 => ?_)
                                      have mo6_99 := m_set hm_99 mo6_98
                                      (try simp only [packA_t, packA_f, iE, bE, setAt, cellsA, Value.cells, map_vc, map_vn, Nat.reduceAdd, qS] at mo6_99)
                                      have mo5_99 := m_set_o hm_99 mo5_98 (by decide)
                                      have mo4_99 := m_set_o hm_99 mo4_98 (by decide)
                                      have mo3_99 := m_set_o hm_99 mo3_98 (by decide)
                                      have mo2_99 := m_set_o hm_99 mo2_98 (by decide)
                                      have mo1_99 := m_set_o hm_99 mo1_98 (by decide)
                                      have mo0_99 := m_set_o hm_99 mo0_98 (by decide)
                                      have ml_99 := m_set_l hm_99 ml_98
                                      clear hm_99 mo6_98 mo5_98 mo4_98 mo3_98 mo2_98 mo1_98 mo0_98
                                      refine al_ro' (ro_assign (up_n (up_m rfl up_h))) trivial rfl ?_
                                      refine al_end (fun e_100 he_100 => ?_)
                                      have s7_100 := ef 7 he_100 (up_m rfl (up_n (up_m rfl (u8 rfl s7_95))))
                                      have s15_100 := ef 15 he_100 (up_m rfl (up_n up_h))
                                      have s16_100 := ef 16 he_100 up_h
                                      clear he_100 s13_95 s4_95 s5_95 s7_95 s81_95
                                      refine then_n ?_
                                      refine aw_seq ?_
                                      refine aw_text (by kernel_rfl) ?_
                                      refine al_ro' (ro_move s16_100) trivial rfl ?_
                                      refine al_ro' (ro_eql up_h ev_c) trivial rfl ?_
                                      refine al_ro' (ro_move up_h) trivial rfl ?_
                                      refine al_case up_h (fun hb_101 hq_101 => ?_) (fun hb_101 hq_101 => ?_)
                                      · (first | replace hq_101 := bnt hq_101 | replace hq_101 := bnf hq_101 | replace hq_101 := bt hq_101 | replace hq_101 := bf hq_101 | replace hq_101 := bt' hq_101 | replace hq_101 := bf' hq_101 | skip)
                                        first
                                        | (cases hq_101; done) | (exfalso; omega)
                                        | (
                                           refine al_ro' (ro_eq (ro_ld_ptr k39_ty68 rfl mo6_99 (up_m rfl (u2 rfl s15_100)) (by first | exact Nat.le_of_ble_eq_true rfl | omega | (simp only [lnS] <;> omega) | (simp <;> omega))) (by first | (simp only [packA_t, packA_f, iE, bE, setAt, cellsA, Value.cells, map_vc, map_vn, Nat.reduceAdd, qS] <;> rfl) | rfl)) ⟨_, rfl, hb_101⟩ rfl ?_
                                           refine al_ro' (ro_eq (ro_ld_ptr k39_ty68 rfl mo3_99 (u4 rfl s7_100) (by first | exact Nat.le_of_ble_eq_true rfl | omega | (simp only [lnS] <;> omega) | (simp <;> omega))) (by first | (simp only [packA_t, packA_f, iE, bE, setAt, cellsA, Value.cells, map_vc, map_vn, Nat.reduceAdd, qS] <;> rfl) | rfl)) ⟨_, rfl, (up_m rfl hb_101)⟩ rfl ?_
                                           refine al_ro' (ro_sqeql (up_m rfl up_h) up_h rfl rfl k39_gq68 k39_sq68 (by decide)) ⟨_, rfl, (u2 rfl hb_101)⟩ rfl ?_
                                           refine al_ro' (ro_pickT (up_m rfl (u2 rfl hb_101)) up_h) trivial rfl ?_
                                           refine al_ro' (ro_assign up_h) trivial rfl ?_
                                           refine al_end (fun e_102 he_102 => ?_)
                                           have s6_102 := ef 6 he_102 up_h
                                           clear he_102 hb_101 s15_100 s16_100 s7_100
                                           refine then_n ?_
                                           refine aw_ret ?_
                                           refine ret1 (.inr rfl) (by kernel_rfl) (resV_tmp s6_102) (.ro _ rfl) ?_
                                           clear s6_102 mo6_99 mo5_99 mo4_99 mo3_99 mo2_99 mo1_99 mo0_99 ml_99
                                           (first | rfl | (refine avb ?_; simp only [decide_eq_true_eq, Bool.false_eq_true, Bool.and_eq_true, true_iff, false_iff, iff_false, iff_true]; omega) | (simp; omega)))
                                      · (first | replace hq_101 := bnt hq_101 | replace hq_101 := bnf hq_101 | replace hq_101 := bt hq_101 | replace hq_101 := bf hq_101 | replace hq_101 := bt' hq_101 | replace hq_101 := bf' hq_101 | skip)
                                        first
                                        | (cases hq_101; done) | (exfalso; omega)
                                        | (
                                           refine al_skip' ⟨_, rfl, .inl hb_101⟩ rfl ?_
                                           refine al_skip' ⟨_, rfl, .inl (up_m rfl hb_101)⟩ rfl ?_
                                           refine al_skip' ⟨_, rfl, .inl (u2 rfl hb_101)⟩ rfl ?_
                                           refine al_ro' (ro_pickF (up_m rfl (u2 rfl hb_101)) ev_c) trivial rfl ?_
                                           refine al_ro' (ro_assign up_h) trivial rfl ?_
                                           refine al_end (fun e_103 he_103 => ?_)
                                           have s6_103 := ef 6 he_103 up_h
                                           clear he_103 hb_101 s15_100 s16_100 s7_100
                                           refine then_n ?_
                                           refine aw_ret ?_
                                           refine ret1 (.inr rfl) (by kernel_rfl) (resV_tmp s6_103) (.ro _ rfl) ?_
                                           clear s6_103 mo6_99 mo5_99 mo4_99 mo3_99 mo2_99 mo1_99 mo0_99 ml_99
                                           (first | rfl | (refine avb ?_; simp only [decide_eq_true_eq, Bool.false_eq_true, Bool.and_eq_true, true_iff, false_iff, iff_false, iff_true]; omega) | (simp; omega)))))))))
end Go.Proofs.Ytelgkjekpcfffaa
