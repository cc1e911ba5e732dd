/- Texts of this claim, one behind the other: lemmas for the statement. -/
import Derived.Test.YtonjcljnpcmenaaM11
import Derived.Test.YtonjcljnpcmenaaT0
/- The law of chapter 5 on where a train may be left: the plain law. No conditions on a program. -/
namespace Go.Proofs.Ytonjcljnpcmenaa
open Go Go.RowKit Go.Proofs
set_option linter.unusedSimpArgs false
set_option linter.unusedVariables false

theorem cu_step (ps : List Piece) (b stop : Int) {j : Nat} (h : j < (stop + 1).toNat) : cuA ps b stop j = if cuA ps b stop (j + 1) = -1 then -1 else max (-1) (min (limW ps j) (cuA ps b stop (j + 1) + losW b (ps.getD j default))) := by
  unfold cuA
  rw [bwL_at ps b 0 (by omega), bwL_at ps b 0 (by omega)]
  obtain ⟨k, hk⟩ : ∃ k, (stop + 1).toNat - j = k + 1 := ⟨(stop + 1).toNat - j - 1, by omega⟩
  rw [hk, show (stop + 1).toNat - (j + 1) = k by omega]
  simp only [bwD]
  rw [show (stop + 1).toNat - k - 1 = j by omega]
theorem cu_end (ps : List Piece) (b stop : Int) : cuA ps b stop (stop + 1).toNat = 0 := by
  unfold cuA
  rw [bwL_at ps b 0 (Nat.le_refl _), Nat.sub_self]; rfl
/-- What holds along a run. -/
theorem run_along {ps : List Piece} {b d v stop post sq : Int} (hok : Ok ps) (hd : 0 ≤ d) (hdb : d ≤ b) (hv : 0 ≤ v) (h0 : 0 ≤ post) (h1 : post ≤ stop) (hsq : 0 ≤ sq ∧ sq ≤ 20000000000) (hr : (runW ps b d stop post sq).2 = 0) :
    (runW ps b d stop post sq).1.length = (stop - post).toNat + 1 ∧ (runW ps b d stop post sq).1.getD 0 default = sq ∧ ∀ i : Nat, i ≤ (stop - post).toNat →
      (0 ≤ (runW ps b d stop post sq).1.getD i default ∧ (runW ps b d stop post sq).1.getD i default ≤ 20000000000) ∧ (runW ps b d stop post sq).1.getD i default ≤ limW ps (post.toNat + i) ∧ (runW ps b d stop post sq).1.getD i default ≤ cuA ps b stop (post.toNat + i) ∧
      (runW ps b d stop (post + i) ((runW ps b d stop post sq).1.getD i default)).2 = 0 ∧
      (∀ k : Nat, i = k + 1 → (runW ps b d stop post sq).1.getD i default ≤ (runW ps b d stop post sq).1.getD k default + 2 * (v - 10 * (ps.getD (post.toNat + k) default).grad) * (ps.getD (post.toNat + k) default).len ∧
        (runW ps b d stop post sq).1.getD k default - 2 * (b + 10 * (ps.getD (post.toNat + k) default).grad) * (ps.getD (post.toNat + k) default).len ≤ (runW ps b d stop post sq).1.getD i default) := by
  have htw := (two_ways h0 h1 hsq.1).1 hr
  have hw : runW ps b d stop post sq = if cuA ps b stop post.toNat = -1 ∨ cuA ps b stop post.toNat < sq then (([], 24) : List Int × Int) else match goL (runF ps b d stop post.toNat) sq (stop - post).toNat with | none => ([], 12) | some l => (l, 0) := rfl
  obtain ⟨l, hl, hgo⟩ : ∃ l, runW ps b d stop post sq = (l, 0) ∧ goL (runF ps b d stop post.toNat) sq (stop - post).toNat = some l := by
    rw [hw] at hr ⊢
    split at hr
    · cases hr
    · rename_i hc
      rw [if_neg hc]
      cases hg : goL (runF ps b d stop post.toNat) sq (stop - post).toNat with
      | none => rw [hg] at hr; cases hr
      | some l => exact ⟨l, rfl, rfl⟩
  rw [hl]
  have hlen := goL_len hgo
  have hfirst : l.getD 0 default = sq := by
    obtain ⟨l0, f1, f2⟩ := goL_pre hgo 0 (by omega)
    cases f1; rw [← f2]; rfl
  have hdown := fun k m h => run_down h0 h1 hgo hsq.1 m k h
  have hup := run_cu h0 hgo htw.1.2
  have each : ∀ k, k < (stop - post).toNat → l.getD (k + 1) default = runF ps b d stop post.toNat k (l.getD k default) ∧ 0 ≤ l.getD (k + 1) default := fun k hk => by
    obtain ⟨l1, e1, e2⟩ := goL_pre hgo (k + 1) (by omega)
    obtain ⟨l2, e3, e4⟩ := goL_pre e1 k (by omega)
    have := goL_next e1
    rw [← e2, ← show l2.getD k default = l.getD k default from ?_]
    · rw [e4]; exact this
    · obtain ⟨l3, e5, e6⟩ := goL_pre hgo k (by omega)
      rw [e3] at e5; cases e5; exact e6
  refine ⟨hlen, hfirst, fun i hi => ?_⟩
  have hlow : 0 ≤ l.getD i default := by
    cases i with
    | zero => rw [hfirst]; exact hsq.1
    | succ k => exact (each k (by omega)).2
  have hcu := hup i hi
  have hcb : cuA ps b stop (post.toNat + i) ≤ 20000000000 := (bwL_bound hok (b := b) (sq := 0) (by omega) (stop + 1).toNat _).2
  have hst := cu_step ps b stop (j := post.toNat + i) (by omega)
  have hlim : l.getD i default ≤ limW ps (post.toNat + i) := by
    by_cases hc : cuA ps b stop (post.toNat + i + 1) = -1
    · rw [if_pos hc] at hst; omega
    · rw [if_neg hc] at hst; omega
  refine ⟨⟨hlow, by show l.getD i default ≤ _; omega⟩, hlim, hcu, ?_, fun k hk => ?_⟩
  · show (runW ps b d stop (post + i) (l.getD i default)).2 = 0
    rw [two_ways (by omega) (by omega) hlow]
    have e : (post + (i : Int)).toNat = post.toNat + i := by omega
    rw [e]
    exact ⟨⟨hdown i ((stop - post).toNat - i) (by omega), hcu⟩, fun j j1 j2 => htw.2 j (by omega) j2⟩
  · subst hk
    show l.getD (k + 1) default ≤ l.getD k default + _ ∧ l.getD k default - _ ≤ l.getD (k + 1) default
    obtain ⟨e1, e2⟩ := each k (by omega)
    have hf : runF ps b d stop post.toNat k (l.getD k default) = min (cuA ps b stop (post.toNat + k + 1)) (l.getD k default - losW d (ps.getD (post.toNat + k) default)) := rfl
    rw [hf] at e1
    have hpl := (hok.at (post.toNat + k)).1.1
    have hstk := cu_step ps b stop (j := post.toNat + k) (by omega)
    have hcuk := hup k (by omega)
    have hlk : 0 ≤ l.getD k default := by
      cases k with
      | zero => rw [hfirst]; exact hsq.1
      | succ k => exact (each k (by omega)).2
    have m1 : losW d (ps.getD (post.toNat + k) default) ≤ losW b (ps.getD (post.toNat + k) default) := los_mono hdb hpl
    have m2 : losW (-v) (ps.getD (post.toNat + k) default) ≤ losW d (ps.getD (post.toNat + k) default) := los_mono (by omega) hpl
    have n1 : 2 * (v - 10 * (ps.getD (post.toNat + k) default).grad) * (ps.getD (post.toNat + k) default).len = - losW (-v) (ps.getD (post.toNat + k) default) := by
      unfold losW
      rw [show 2 * (-v + 10 * (ps.getD (post.toNat + k) default).grad) = -(2 * (v - 10 * (ps.getD (post.toNat + k) default).grad)) by omega, Int.neg_mul, Int.neg_neg]
    have n2 : 2 * (b + 10 * (ps.getD (post.toNat + k) default).grad) * (ps.getD (post.toNat + k) default).len = losW b (ps.getD (post.toNat + k) default) := rfl
    rw [n1, n2]
    by_cases hc : cuA ps b stop (post.toNat + k + 1) = -1
    · rw [if_pos hc] at hstk; omega
    · rw [if_neg hc] at hstk; omega
/-- Braked at the stop's post, within the stop's piece. -/
theorem stands_at {ps : List Piece} {b stop s : Int} (hok : Ok ps) (h0 : 0 ≤ stop) (h1 : stop < ps.length) (hs : 0 ≤ s) (hc : s ≤ cuA ps b stop stop.toNat) :
    (b + 10 * (ps.getD stop.toNat default).grad ≤ 0 → s = 0) ∧ (0 < b + 10 * (ps.getD stop.toNat default).grad → (stW ps b stop s).2 = 0 ∧ sumL ps stop.toNat ≤ (stW ps b stop s).1.1 ∧ (stW ps b stop s).1.1 ≤ (stW ps b stop s).1.2 ∧ (stW ps b stop s).1.2 ≤ sumL ps (stop.toNat + 1)) := by
  have hst := cu_step ps b stop (j := stop.toNat) (by omega)
  have he := cu_end ps b stop
  rw [show stop.toNat + 1 = (stop + 1).toNat by omega, he, if_neg (by decide)] at hst
  have hle := hok.len (i := stop.toNat) (by omega)
  have hby := los_by (dec := b) hle
  constructor
  · intro hn
    have : losW b (ps.getD stop.toNat default) ≤ 0 := by
      unfold losW
      exact Int.mul_nonpos_of_nonpos_of_nonneg (by omega) (by omega)
    omega
  · intro hp
    generalize hB : 2 * (b + 10 * (ps.getD stop.toNat default).grad) = B at hby
    have hL : losW b (ps.getD stop.toNat default) = B * (ps.getD stop.toNat default).len := by rw [← hB]; rfl
    have hB0 : 0 < B := by omega
    have hpos : 0 < losW b (ps.getD stop.toNat default) := by rw [hL]; exact Int.mul_pos hB0 (by omega)
    have hge : losW b (ps.getD stop.toNat default) ≥ s := by omega
    have hw : stW ps b stop s = ((sumL ps stop.toNat + s.tdiv B, sumL ps stop.toNat + (s + B - 1).tdiv B), 0) := by
      unfold stW
      rw [show ps.length - stop.toNat = (ps.length - stop.toNat - 1) + 1 by omega]
      simp only [stG]
      rw [if_pos ⟨hpos, hge⟩, hby]
    rw [hw]
    have hsum : sumL ps (stop.toNat + 1) = sumL ps stop.toNat + (ps.getD stop.toNat default).len := rfl
    rw [hsum]
    have d1 : 0 ≤ s.tdiv B := (Int.tdiv_eq_ediv_of_nonneg hs) ▸ Int.ediv_nonneg hs (by omega)
    have d2 : s.tdiv B ≤ (s + B - 1).tdiv B := by
      rw [Int.tdiv_eq_ediv_of_nonneg hs, Int.tdiv_eq_ediv_of_nonneg (by omega)]
      exact Int.ediv_le_ediv hB0 (by omega)
    have d3 : (s + B - 1).tdiv B ≤ (ps.getD stop.toNat default).len := by
      rw [Int.tdiv_eq_ediv_of_nonneg (by omega)]
      have : (s + B - 1) / B < (ps.getD stop.toNat default).len + 1 := by
        rw [Int.ediv_lt_iff_lt_mul hB0, Int.add_mul, Int.one_mul, Int.mul_comm]
        rw [hL] at hge
        omega
      omega
    exact ⟨rfl, by show _ ≤ sumL ps stop.toNat + _; omega, by show sumL ps stop.toNat + _ ≤ sumL ps stop.toNat + _; omega, by show sumL ps stop.toNat + _ ≤ _; omega⟩
end Go.Proofs.Ytonjcljnpcmenaa

/- Contracts of chapter 5: where a train stands, as the document has it. No conditions on a program. -/
namespace Go.Proofs.Ytonjcljnpcmenaa
open Go Go.RowKit Go.Proofs
set_option linter.unusedSimpArgs false
set_option linter.unusedVariables false
end Go.Proofs.Ytonjcljnpcmenaa

/- Contracts of chapter 5: roots; the errors of squares. No conditions on a program. -/
namespace Go.Proofs.Ytonjcljnpcmenaa
open Go Go.RowKit Go.Proofs
set_option linter.unusedSimpArgs false
set_option linter.unusedVariables false
theorem k24_sl49 : SlIs Try.prog 49 3 1 8 (.int .i64 0) := ⟨by kernel_rfl, by kernel_rfl, by kernel_rfl⟩
theorem k24_sl98 : SlIs Try.prog 98 104 4 32 (.agg #[.int .i64 0, .int .i64 0, .int .i64 0, .bool false]) := ⟨by kernel_rfl, by kernel_rfl, by kernel_rfl⟩
theorem k24_ty3 : TyIs Try.prog 3 false 1 := ⟨by kernel_rfl, by kernel_rfl⟩
theorem k24_ty98 : TyIs Try.prog 98 false 1 := ⟨by kernel_rfl, by kernel_rfl⟩

/-- The error of squares. -/
def sqsE (ps : List Piece) (xs : List Int) : Int := if xs.length = ps.length + 1 then (if ∀ x ∈ xs, withinB x 0 20000000000 = true then 0 else 2) else 10
theorem all_pre {xs : List Int} {n : Nat} (h : ∀ j : Nat, j < n → withinB (xs.getD j default) 0 20000000000 = true) (hn : xs.length ≤ n) : ∀ x ∈ xs, withinB x 0 20000000000 = true := fun x hx => by
  obtain ⟨j, hj, rfl⟩ := List.getElem_of_mem hx
  have := h j (by omega)
  rwa [List.getD_eq_getElem?_getD, List.getElem?_eq_getElem hj] at this
theorem all_not {xs : List Int} {j : Nat} (hj : j < xs.length) (h : ¬ withinB (xs.getD j default) 0 20000000000 = true) : ¬ ∀ x ∈ xs, withinB x 0 20000000000 = true := fun hall => h (by
  rw [List.getD_eq_getElem?_getD, List.getElem?_eq_getElem hj]; exact hall _ (List.getElem_mem hj))
section
variable (xs : List Int) (hx : xs.length ≤ 1000000000)
include hx
set_option maxRecDepth 100000 in
set_option maxHeartbeats 1000000 in
theorem rSquaresErr_ok (nm : ByteArray) (ps : List Piece) (hp : ps.length ≤ 1000000000) : FnOk Try.prog 62 [trA nm ps, .row 1 (xs.map iE)] (fun q => q = iA (sqsE ps xs)) := by
  refine fnOk_of (fn := Try.f62) 25 (by kernel_rfl) rfl (by kernel_rfl) (Nat.le_of_ble_eq_true rfl) ?_
  intro e_0 m_0 hA hm_0
  have s0_0 : evA e_0 (.tmp 0) = _ := hA 0 _ rfl
  have s1_0 : evA e_0 (.tmp 1) = _ := hA 1 _ rfl
  have ml_0 : m_0.length = 0 := by rw [hm_0]; rfl
  clear hA hm_0
  refine aw_seq <| at_ <| al_stm (st_box s0_0 rfl ml_0) trivial rfl (fun m_1 hm_1 => ?_)
  have mo0_1 := m_push hm_1 ml_0
  have ml_1 := m_push_l hm_1 ml_0
  have ml_1 : _ = 1 := ml_1
  clear hm_1
  refine ar (ro_assign ev_c) rfl <| ae2 (u2 rfl s1_0) (up_m rfl up_h) ?_; clear s0_0 s1_0; intro e_2 s1_2 s2_2
  refine then_n <| aw_seq <| aw_seq <| at_ <| ar (ro_move s1_2) rfl <| ar (ro_eq (ro_len_row up_h rfl k24_sl49.1) (by simp only [lnS] <;> rfl)) rfl ?_
  refine ar (ro_fld_ptr qfl100_1 rfl (u2 rfl s2_2)) rfl <| ar (ro_eq (ro_ld_ptr k24_ty98 rfl mo0_1 up_h (nle rfl)) (by simp only [pS, Value.cells, Nat.reduceAdd] <;> rfl)) rfl ?_
  refine ar (ro_eq (ro_len_row up_h rfl k24_sl98.1) (by simp only [lnS] <;> rfl)) rfl ?_
  (refine ar (ro_add' up_h ev_c ?_) rfl ?_; · (unfold In64; omega))
  refine ar (ro_neq (u4 rfl up_h) up_h) rfl <| ae2 (up_m rfl (u2 rfl (u4 rfl s1_2))) up_h ?_; clear s1_2 s2_2; intro e_3 s1_3 s12_3
  refine then_n <| aw_case s12_3 (fun hq_4 => ?_) (fun hq_4 => ?_)
  ·replace hq_4 := bnt hq_4
   refine aw_seq <| at_ <| ar (ro_assign ev_c) rfl <| ae1 up_h ?_; clear s12_3 s1_3; intro e_5 s4_5
   refine then_n <| aw_ret <| then_r <| ret1 (.inr rfl) (by kernel_rfl) (resV_tmp s4_5) (.ro _ rfl) ?_
   clear s4_5 mo0_1 ml_1
   (refine avi ?_; unfold sqsE; rw [if_neg (by omega)])
  replace hq_4 := bnf hq_4
  refine aw_skip <| then_n <| aw_seq <| aw_seq <| at_ <| ar (ro_assign ev_c) rfl <| ae2 (up_m rfl s1_3) up_h ?_; clear s12_3 s1_3; intro e_6 s1_6 s5_6
  refine then_n <| aw_block <| aw_loop (S := Int) (fun i e mem => (evA e (.tmp 5) = .v (.int .i64 i)) ∧ (evA e (.tmp 1) = evA e_6 (.tmp 1)) ∧ (mem[0]? = m_1[0]?) ∧ (mem.length = 1) ∧ ((0 ≤ i ∧ i ≤ xs.length ∧ ∀ j : Nat, j < i.toNat → withinB (xs.getD j default) 0 20000000000 = true))) (fun i => (xs.length - i).toNat) _ ⟨s5_6, rfl, rfl, ml_1, ?_⟩ ?_
  · (exact ⟨by omega, by omega, fun j h => absurd h (by omega)⟩)
  · rintro i e_7 m_7 ⟨s5_7, k1_7, mk0_7, ml_7, hinv⟩
    have s1_7 := k1_7.trans s1_6
    have mo0_7 := mk0_7.trans mo0_1
    (obtain ⟨p1, p2, p3⟩ := hinv)
    refine aw_seq <| aw_seq <| at_ <| ar (ro_move s5_7) rfl <| ar (ro_move (up_m rfl s1_7)) rfl <| ar (ro_eq (ro_len_row up_h rfl k24_sl49.1) (by simp only [lnS] <;> rfl)) rfl ?_
    refine ar (ro_lss (u2 rfl up_h) up_h) rfl <| ae3 (u4 rfl s1_7) (u4 rfl s5_7) up_h ?_; clear s1_7 s5_7; intro e_8 s1_8 s5_8 s16_8
    refine then_n <| aw_case s16_8 (fun hq_9 => ?_) (fun hq_9 => ?_)
    ·replace hq_9 := bt hq_9
     refine aw_skip <| then_n <| aw_seq <| aw_block <| aw_seq <| at_ <| ar (ro_move s1_8) rfl <| ar (ro_move (up_m rfl s5_8)) rfl <| ar (ro_eq (ro_ix k24_sl49 (up_m rfl up_h) up_h (by omega) (by first | (refine idx_map ?_; first | omega | (simp only [lnS]; omega)) | (refine idx_mapI ?_; first | omega | (simp only [lnS]; omega)) | (refine idx_mapN ?_; first | omega | (simp only [lnS]; omega)) | rfl)) (by simp only [pS, Value.cells, Nat.reduceAdd] <;> rfl)) rfl ?_
     refine ar (ro_eq (ro_ld_ref k24_ty3 rfl up_h (nle rfl)) (by simp only [pS, Value.cells, Nat.reduceAdd] <;> rfl)) rfl ?_
     refine ar (ro_call (evL_cons up_h (evL_cons ev_c (evL_cons ev_c evL_nil))) rfl (bWithin_ok _ _ _) qhcf30) rfl <| ar (ro_not up_h) rfl <| ae3 (u2 rfl (u4 rfl s1_8)) (u2 rfl (u4 rfl s5_8)) up_h ?_; clear s16_8 s1_8 s5_8; intro e_10 s1_10 s5_10 s24_10
     refine then_n <| aw_case s24_10 (fun hq_11 => ?_) (fun hq_11 => ?_)
     ·replace hq_11 := bt' hq_11
      refine aw_seq <| at_ <| ar (ro_assign ev_c) rfl <| ae1 up_h ?_; clear s1_10 s24_10 s5_10; intro e_12 s4_12
      refine then_n <| aw_ret <| block_r <| then_r <| then_r <| block_r <| then_r <| ret1 (.inr rfl) (by kernel_rfl) (resV_tmp s4_12) (.ro _ rfl) ?_
      clear s4_12 mo0_7 ml_7
      (refine avi ?_; unfold sqsE; rw [if_pos (by omega), if_neg (all_not (j := i.toNat) (by omega) (by simp_all))])
     replace hq_11 := bf' hq_11
     refine aw_skip <| block_n <| then_n <| at_ <| ar (ro_move s5_10) rfl ?_
     (refine ar (ro_add' up_h ev_c ?_) rfl ?_; · (unfold In64; omega))
     refine ar (ro_assign up_h) rfl <| ae2 (up_m rfl (u2 rfl s1_10)) up_h ?_; clear s1_10 s24_10 s5_10; intro e_13 s1_13 s5_13
     refine then_n <| ⟨_, ⟨s5_13, (s1_13.trans s1_6.symm), (mo0_7.trans mo0_1.symm), ml_7, ?_⟩, ?_⟩
     · (refine ⟨by omega, by omega, fun j hj => ?_⟩; by_cases hji : j < i.toNat; (exact p3 j hji); (rw [show j = i.toNat by omega]; assumption))
     · ((try dsimp only); omega)
    replace hq_9 := bf hq_9
    refine aw_exit <| then_x <| then_x <| block_hit <| then_n <| aw_seq <| at_ <| ar (ro_assign ev_c) rfl <| ae1 up_h ?_; clear s16_8 s1_8 s5_8; intro e_14 s4_14
    refine then_n <| aw_ret <| ret1 (.inr rfl) (by kernel_rfl) (resV_tmp s4_14) (.ro _ rfl) ?_
    clear s4_14 mo0_7 ml_7
    (refine avi ?_; unfold sqsE; rw [if_pos (by omega), if_pos (all_pre (n := i.toNat) p3 (by omega))])
end
end Go.Proofs.Ytonjcljnpcmenaa

/- Contracts of chapter 5: which squares can be run; their time. No conditions on a program. -/
namespace Go.Proofs.Ytonjcljnpcmenaa
open Go Go.RowKit Go.Proofs
set_option linter.unusedSimpArgs false
set_option linter.unusedVariables false

/-- A square that cannot be run. -/
def cskB (ps : List Piece) (b v : Int) (xs : List Int) (i : Nat) : Prop := limW ps i < xs.getD i default ∨ (0 < i ∧ ¬ (xs.getD (i - 1) default - losW b (ps.getD (i - 1) default) ≤ xs.getD i default ∧ xs.getD i default ≤ xs.getD (i - 1) default - losW (-v) (ps.getD (i - 1) default)))
instance (ps : List Piece) (b v : Int) (xs : List Int) (i : Nat) : Decidable (cskB ps b v xs i) := by unfold cskB; exact inferInstance
def cskW (ps : List Piece) (b v : Int) (xs : List Int) : Int × Int := match (List.range xs.length).find? fun i => decide (cskB ps b v xs i) with
  | some i => ((i : Int), 24)
  | none => (0, 0)
def cskE (nm : ByteArray) (ps : List Piece) (b d v : Int) (xs : List Int) : Int := firstE [firstE [(chk nm ps).2, sysE b d v], sqsE ps xs]
section
variable (nm : ByteArray) (ps : List Piece) (hs : nm.size ≤ 1000000000) (hp : ps.length ≤ 1000000000) (b d v : Int) (xs : List Int) (hx : xs.length ≤ 1000000000)
include hs hp hx
end
end Go.Proofs.Ytonjcljnpcmenaa

/- Contracts of chapter 5: the time of squares, and the document's. No conditions on a program. -/
namespace Go.Proofs.Ytonjcljnpcmenaa
open Go Go.RowKit Go.Proofs
set_option linter.unusedSimpArgs false
set_option linter.unusedVariables false

section
variable (nm : ByteArray) (ps : List Piece) (hs : nm.size ≤ 1000000000) (hp : ps.length ≤ 1000000000) (xs : List Int) (hx : xs.length ≤ 1000000000)
include hs hp hx
end
section
variable (nm : ByteArray) (ps : List Piece) (hR : trackR ps) (xs : List Int) (hsq : xs.length = ps.length + 1 ∧ ∀ j : Nat, 0 ≤ xs.getD j default ∧ xs.getD j default ≤ 20000000000)
include hR hsq
end
end Go.Proofs.Ytonjcljnpcmenaa

/- The law of chapter 5 that nothing is faster: the plain law. No conditions on a program. -/
namespace Go.Proofs.Ytonjcljnpcmenaa
open Go Go.RowKit Go.Proofs
set_option linter.unusedSimpArgs false
set_option linter.unusedVariables false

def faM (ps : List Piece) (b e1 : Int) (j : Nat) : Int := (fasM ps b e1).getD j default
theorem faM_at (ps : List Piece) (b e1 : Int) {j : Nat} (h : j ≤ ps.length) : faM ps b e1 j = bwD ps b (min e1 (limW ps ps.length)) ps.length (ps.length - j) := by
  unfold faM fasM
  rw [bwL_at _ _ _ h, liW_at ps (by omega)]
theorem faM_end (ps : List Piece) (b e1 : Int) : faM ps b e1 ps.length = min e1 (limW ps ps.length) := by
  rw [faM_at ps b e1 (Nat.le_refl _), Nat.sub_self]; rfl
theorem faM_step (ps : List Piece) (b e1 : Int) {j : Nat} (h : j < ps.length) : faM ps b e1 j = if faM ps b e1 (j + 1) = -1 then -1 else max (-1) (min (limW ps j) (faM ps b e1 (j + 1) + losW b (ps.getD j default))) := by
  rw [faM_at ps b e1 (by omega), faM_at ps b e1 (by omega)]
  obtain ⟨k, hk⟩ : ∃ k, ps.length - j = k + 1 := ⟨ps.length - j - 1, by omega⟩
  rw [hk, show ps.length - (j + 1) = k by omega]
  simp only [bwD]
  rw [show ps.length - k - 1 = j by omega]
theorem faM_lim {ps : List Piece} (hok : Ok ps) (b e1 : Int) {j : Nat} (h : j ≤ ps.length) : faM ps b e1 j ≤ limW ps j := by
  have hl := limW_bound hok j
  by_cases hj : j = ps.length
  · subst hj; rw [faM_end]; omega
  · rw [faM_step ps b e1 (by omega)]; split <;> omega
/-- Squares that can be run between two ends. -/
def rivalP (ps : List Piece) (b v e0 e1 : Int) (xs : List Int) : Prop := xs.length = ps.length + 1 ∧ (∀ j : Nat, 0 ≤ xs.getD j default ∧ xs.getD j default ≤ 20000000000) ∧ (∀ j : Nat, j < xs.length → ¬ cskB ps b v xs j) ∧ xs.getD 0 default = e0 ∧ xs.getD ps.length default ≤ e1
theorem rival_lim {ps : List Piece} {b v e0 e1 : Int} {xs : List Int} (h : rivalP ps b v e0 e1 xs) {j : Nat} (hj : j ≤ ps.length) : xs.getD j default ≤ limW ps j := by
  have := h.2.2.1 j (by rw [h.1]; omega)
  unfold cskB at this
  omega
/-- The fastest squares can be run. -/
theorem fast_runs {ps : List Piece} {b d v e0 e1 : Int} (hok : Ok ps) (hs : sysR b d v) (h0 : 0 ≤ e0 ∧ e0 ≤ 20000000000) (h : (fasW ps b v e0 e1).2 = 0) : rivalP ps b v e0 e1 (fasW ps b v e0 e1).1 := by
  obtain ⟨s1, s2, s3, s4⟩ := hs
  have hf : ∀ k x, fasF ps b v e1 k x = min (faM ps b e1 (k + 1)) (x + -losW (-v) (ps.getD k default)) := fun _ _ => rfl
  obtain ⟨l, hw, hgo, hc⟩ : ∃ l, fasW ps b v e0 e1 = (l, 0) ∧ goL (fasF ps b v e1) e0 ps.length = some l ∧ ¬ (fasM ps b e1).getD 0 default < e0 := by
    unfold fasW at h ⊢
    split at h
    · cases h
    · rename_i hc
      rw [if_neg hc]
      cases hg : goL (fasF ps b v e1) e0 ps.length with
      | none => rw [hg] at h; cases h
      | some l => exact ⟨l, rfl, rfl, hc⟩
  rw [hw]
  show rivalP ps b v e0 e1 l
  have hlen := goL_len hgo
  have hfirst : l.getD 0 default = e0 := by
    obtain ⟨l0, f1, f2⟩ := goL_pre hgo 0 (by omega)
    cases f1; rw [← f2]; rfl
  have each : ∀ k, k < ps.length → l.getD (k + 1) default = min (faM ps b e1 (k + 1)) (l.getD k default + -losW (-v) (ps.getD k default)) ∧ 0 ≤ l.getD (k + 1) default := fun k hk => by
    obtain ⟨l1, e1', e2⟩ := goL_pre hgo (k + 1) (by omega)
    obtain ⟨l2, e3, e4⟩ := goL_pre e1' k (by omega)
    have h5 := goL_next e1'
    have h6 : l2.getD k default = l.getD k default := by
      obtain ⟨l3, e5, e6⟩ := goL_pre hgo k (by omega)
      rw [e3] at e5; cases e5; exact e6
    rw [hf] at h5
    rw [← e2, ← h6, e4]; exact h5
  have below : ∀ j, j ≤ ps.length → l.getD j default ≤ faM ps b e1 j := fun j hj => by
    cases j with
    | zero =>
      rw [hfirst]
      have e : faM ps b e1 0 = (fasM ps b e1).getD 0 default := rfl
      omega
    | succ k => have := (each k (by omega)).1; omega
  have low : ∀ j, j ≤ ps.length → 0 ≤ l.getD j default := fun j hj => by
    cases j with
    | zero => rw [hfirst]; exact h0.1
    | succ k => exact (each k (by omega)).2
  refine ⟨hlen, fun j => ?_, fun j hj => ?_, hfirst, ?_⟩
  · by_cases hj : j ≤ ps.length
    · have := below j hj; have := faM_lim hok b e1 hj; have := limW_bound hok j; have := low j hj
      omega
    · rw [List.getD_eq_getElem?_getD, List.getElem?_eq_none (by omega)]
      exact ⟨by decide, by decide⟩
  · have h1 := below j (by omega)
    have h2 := faM_lim hok b e1 (j := j) (by omega)
    unfold cskB
    intro hq
    rcases hq with hq | ⟨hj0, hq⟩
    · omega
    · obtain ⟨k, rfl⟩ : ∃ k, j = k + 1 := ⟨j - 1, by omega⟩
      rw [show k + 1 - 1 = k by omega] at hq
      have h3 := (each k (by omega)).1
      have h4 := below k (by omega)
      have h5 := low k (by omega)
      have h6 := faM_step ps b e1 (j := k) (by omega)
      have h7 : losW (-v) (ps.getD k default) ≤ losW b (ps.getD k default) := los_mono (by omega) (hok.at k).1.1
      apply hq
      by_cases hm : faM ps b e1 (k + 1) = -1
      · rw [if_pos hm] at h6; omega
      · rw [if_neg hm] at h6; omega
  · have := below ps.length (Nat.le_refl _)
    rw [faM_end] at this
    omega
/-! ### Faster squares take no longer -/
end Go.Proofs.Ytonjcljnpcmenaa

/- The law of chapter 5 on curves. No conditions on a program. -/
namespace Go.Proofs.Ytonjcljnpcmenaa
open Go Go.RowKit Go.Proofs
set_option linter.unusedSimpArgs false
set_option linter.unusedVariables false

end Go.Proofs.Ytonjcljnpcmenaa

/- The law of chapter 5 on the fastest squares. No conditions on a program. -/
namespace Go.Proofs.Ytonjcljnpcmenaa
open Go Go.RowKit Go.Proofs
set_option linter.unusedSimpArgs false
set_option linter.unusedVariables false

end Go.Proofs.Ytonjcljnpcmenaa

