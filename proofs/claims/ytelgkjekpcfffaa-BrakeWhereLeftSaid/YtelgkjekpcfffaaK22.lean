/- The law of chapter 5 on where a train may be left: the plain law. No conditions on a program. -/
import Derived.Test.YtelgkjekpcfffaaK33
namespace Go.Proofs.Ytelgkjekpcfffaa
open Go Go.RowKit Go.Proofs
set_option linter.unusedSimpArgs false
set_option linter.unusedVariables false

theorem cu_step (ps : List Piece) (b stop : Int) {j : Nat} (h : j < (stop + 1).toNat) : cuA ps b stop j = if cuA ps b stop (j + 1) = -1 then -1 else max (-1) (min (limW ps j) (cuA ps b stop (j + 1) + losW b (ps.getD j default))) := by
  unfold cuA
  rw [bwL_at ps b 0 (by omega), bwL_at ps b 0 (by omega)]
  obtain ⟨k, hk⟩ : ∃ k, (stop + 1).toNat - j = k + 1 := ⟨(stop + 1).toNat - j - 1, by omega⟩
  rw [hk, show (stop + 1).toNat - (j + 1) = k by omega]
  simp only [bwD]
  rw [show (stop + 1).toNat - k - 1 = j by omega]
theorem cu_end (ps : List Piece) (b stop : Int) : cuA ps b stop (stop + 1).toNat = 0 := by
  unfold cuA
  rw [bwL_at ps b 0 (Nat.le_refl _), Nat.sub_self]; rfl
/-- What holds along a run. -/
theorem run_along {ps : List Piece} {b d v stop post sq : Int} (hok : Ok ps) (hd : 0 ≤ d) (hdb : d ≤ b) (hv : 0 ≤ v) (h0 : 0 ≤ post) (h1 : post ≤ stop) (hsq : 0 ≤ sq ∧ sq ≤ 20000000000) (hr : (runW ps b d stop post sq).2 = 0) :
    (runW ps b d stop post sq).1.length = (stop - post).toNat + 1 ∧ (runW ps b d stop post sq).1.getD 0 default = sq ∧ ∀ i : Nat, i ≤ (stop - post).toNat →
      (0 ≤ (runW ps b d stop post sq).1.getD i default ∧ (runW ps b d stop post sq).1.getD i default ≤ 20000000000) ∧ (runW ps b d stop post sq).1.getD i default ≤ limW ps (post.toNat + i) ∧ (runW ps b d stop post sq).1.getD i default ≤ cuA ps b stop (post.toNat + i) ∧
      (runW ps b d stop (post + i) ((runW ps b d stop post sq).1.getD i default)).2 = 0 ∧
      (∀ k : Nat, i = k + 1 → (runW ps b d stop post sq).1.getD i default ≤ (runW ps b d stop post sq).1.getD k default + 2 * (v - 10 * (ps.getD (post.toNat + k) default).grad) * (ps.getD (post.toNat + k) default).len ∧
        (runW ps b d stop post sq).1.getD k default - 2 * (b + 10 * (ps.getD (post.toNat + k) default).grad) * (ps.getD (post.toNat + k) default).len ≤ (runW ps b d stop post sq).1.getD i default) := by
  have htw := (two_ways h0 h1 hsq.1).1 hr
  have hw : runW ps b d stop post sq = if cuA ps b stop post.toNat = -1 ∨ cuA ps b stop post.toNat < sq then (([], 24) : List Int × Int) else match goL (runF ps b d stop post.toNat) sq (stop - post).toNat with | none => ([], 12) | some l => (l, 0) := rfl
  obtain ⟨l, hl, hgo⟩ : ∃ l, runW ps b d stop post sq = (l, 0) ∧ goL (runF ps b d stop post.toNat) sq (stop - post).toNat = some l := by
    rw [hw] at hr ⊢
    split at hr
    · cases hr
    · rename_i hc
      rw [if_neg hc]
      cases hg : goL (runF ps b d stop post.toNat) sq (stop - post).toNat with
      | none => rw [hg] at hr; cases hr
      | some l => exact ⟨l, rfl, rfl⟩
  rw [hl]
  have hlen := goL_len hgo
  have hfirst : l.getD 0 default = sq := by
    obtain ⟨l0, f1, f2⟩ := goL_pre hgo 0 (by omega)
    cases f1; rw [← f2]; rfl
  have hdown := fun k m h => run_down h0 h1 hgo hsq.1 m k h
  have hup := run_cu h0 hgo htw.1.2
  have each : ∀ k, k < (stop - post).toNat → l.getD (k + 1) default = runF ps b d stop post.toNat k (l.getD k default) ∧ 0 ≤ l.getD (k + 1) default := fun k hk => by
    obtain ⟨l1, e1, e2⟩ := goL_pre hgo (k + 1) (by omega)
    obtain ⟨l2, e3, e4⟩ := goL_pre e1 k (by omega)
    have := goL_next e1
    rw [← e2, ← show l2.getD k default = l.getD k default from ?_]
    · rw [e4]; exact this
    · obtain ⟨l3, e5, e6⟩ := goL_pre hgo k (by omega)
      rw [e3] at e5; cases e5; exact e6
  refine ⟨hlen, hfirst, fun i hi => ?_⟩
  have hlow : 0 ≤ l.getD i default := by
    cases i with
    | zero => rw [hfirst]; exact hsq.1
    | succ k => exact (each k (by omega)).2
  have hcu := hup i hi
  have hcb : cuA ps b stop (post.toNat + i) ≤ 20000000000 := (bwL_bound hok (b := b) (sq := 0) (by omega) (stop + 1).toNat _).2
  have hst := cu_step ps b stop (j := post.toNat + i) (by omega)
  have hlim : l.getD i default ≤ limW ps (post.toNat + i) := by
    by_cases hc : cuA ps b stop (post.toNat + i + 1) = -1
    · rw [if_pos hc] at hst; omega
    · rw [if_neg hc] at hst; omega
  refine ⟨⟨hlow, by show l.getD i default ≤ _; omega⟩, hlim, hcu, ?_, fun k hk => ?_⟩
  · show (runW ps b d stop (post + i) (l.getD i default)).2 = 0
    rw [two_ways (by omega) (by omega) hlow]
    have e : (post + (i : Int)).toNat = post.toNat + i := by omega
    rw [e]
    exact ⟨⟨hdown i ((stop - post).toNat - i) (by omega), hcu⟩, fun j j1 j2 => htw.2 j (by omega) j2⟩
  · subst hk
    show l.getD (k + 1) default ≤ l.getD k default + _ ∧ l.getD k default - _ ≤ l.getD (k + 1) default
    obtain ⟨e1, e2⟩ := each k (by omega)
    have hf : runF ps b d stop post.toNat k (l.getD k default) = min (cuA ps b stop (post.toNat + k + 1)) (l.getD k default - losW d (ps.getD (post.toNat + k) default)) := rfl
    rw [hf] at e1
    have hpl := (hok.at (post.toNat + k)).1.1
    have hstk := cu_step ps b stop (j := post.toNat + k) (by omega)
    have hcuk := hup k (by omega)
    have hlk : 0 ≤ l.getD k default := by
      cases k with
      | zero => rw [hfirst]; exact hsq.1
      | succ k => exact (each k (by omega)).2
    have m1 : losW d (ps.getD (post.toNat + k) default) ≤ losW b (ps.getD (post.toNat + k) default) := los_mono hdb hpl
    have m2 : losW (-v) (ps.getD (post.toNat + k) default) ≤ losW d (ps.getD (post.toNat + k) default) := los_mono (by omega) hpl
    have n1 : 2 * (v - 10 * (ps.getD (post.toNat + k) default).grad) * (ps.getD (post.toNat + k) default).len = - losW (-v) (ps.getD (post.toNat + k) default) := by
      unfold losW
      rw [show 2 * (-v + 10 * (ps.getD (post.toNat + k) default).grad) = -(2 * (v - 10 * (ps.getD (post.toNat + k) default).grad)) by omega, Int.neg_mul, Int.neg_neg]
    have n2 : 2 * (b + 10 * (ps.getD (post.toNat + k) default).grad) * (ps.getD (post.toNat + k) default).len = losW b (ps.getD (post.toNat + k) default) := rfl
    rw [n1, n2]
    by_cases hc : cuA ps b stop (post.toNat + k + 1) = -1
    · rw [if_pos hc] at hstk; omega
    · rw [if_neg hc] at hstk; omega
/-- Braked at the stop's post, within the stop's piece. -/
theorem stands_at {ps : List Piece} {b stop s : Int} (hok : Ok ps) (h0 : 0 ≤ stop) (h1 : stop < ps.length) (hs : 0 ≤ s) (hc : s ≤ cuA ps b stop stop.toNat) :
    (b + 10 * (ps.getD stop.toNat default).grad ≤ 0 → s = 0) ∧ (0 < b + 10 * (ps.getD stop.toNat default).grad → (stW ps b stop s).2 = 0 ∧ sumL ps stop.toNat ≤ (stW ps b stop s).1.1 ∧ (stW ps b stop s).1.1 ≤ (stW ps b stop s).1.2 ∧ (stW ps b stop s).1.2 ≤ sumL ps (stop.toNat + 1)) := by
  have hst := cu_step ps b stop (j := stop.toNat) (by omega)
  have he := cu_end ps b stop
  rw [show stop.toNat + 1 = (stop + 1).toNat by omega, he, if_neg (by decide)] at hst
  have hle := hok.len (i := stop.toNat) (by omega)
  have hby := los_by (dec := b) hle
  constructor
  · intro hn
    have : losW b (ps.getD stop.toNat default) ≤ 0 := by
      unfold losW
      exact Int.mul_nonpos_of_nonpos_of_nonneg (by omega) (by omega)
    omega
  · intro hp
    generalize hB : 2 * (b + 10 * (ps.getD stop.toNat default).grad) = B at hby
    have hL : losW b (ps.getD stop.toNat default) = B * (ps.getD stop.toNat default).len := by rw [← hB]; rfl
    have hB0 : 0 < B := by omega
    have hpos : 0 < losW b (ps.getD stop.toNat default) := by rw [hL]; exact Int.mul_pos hB0 (by omega)
    have hge : losW b (ps.getD stop.toNat default) ≥ s := by omega
    have hw : stW ps b stop s = ((sumL ps stop.toNat + s.tdiv B, sumL ps stop.toNat + (s + B - 1).tdiv B), 0) := by
      unfold stW
      rw [show ps.length - stop.toNat = (ps.length - stop.toNat - 1) + 1 by omega]
      simp only [stG]
      rw [if_pos ⟨hpos, hge⟩, hby]
    rw [hw]
    have hsum : sumL ps (stop.toNat + 1) = sumL ps stop.toNat + (ps.getD stop.toNat default).len := rfl
    rw [hsum]
    have d1 : 0 ≤ s.tdiv B := (Int.tdiv_eq_ediv_of_nonneg hs) ▸ Int.ediv_nonneg hs (by omega)
    have d2 : s.tdiv B ≤ (s + B - 1).tdiv B := by
      rw [Int.tdiv_eq_ediv_of_nonneg hs, Int.tdiv_eq_ediv_of_nonneg (by omega)]
      exact Int.ediv_le_ediv hB0 (by omega)
    have d3 : (s + B - 1).tdiv B ≤ (ps.getD stop.toNat default).len := by
      rw [Int.tdiv_eq_ediv_of_nonneg (by omega)]
      have : (s + B - 1) / B < (ps.getD stop.toNat default).len + 1 := by
        rw [Int.ediv_lt_iff_lt_mul hB0, Int.add_mul, Int.one_mul, Int.mul_comm]
        rw [hL] at hge
        omega
      omega
    exact ⟨rfl, by show _ ≤ sumL ps stop.toNat + _; omega, by show sumL ps stop.toNat + _ ≤ sumL ps stop.toNat + _; omega, by show sumL ps stop.toNat + _ ≤ _; omega⟩
theorem stE_zero {nm : ByteArray} {ps : List Piece} {b d v post sq post' sq' stop : Int} (h : runE nm ps b d v post sq stop = 0) (hp : 0 ≤ post' ∧ post' ≤ ps.length) (hs : 0 ≤ sq' ∧ sq' ≤ 20000000000) : stE nm ps b d v post' sq' = 0 := by
  have e : runE nm ps b d v post sq stop = firstE [firstE [(chk nm ps).2, sysE b d v], stateE ps post sq, stopE ps stop, unlessE (decide (post ≤ stop)) 9] := rfl
  rw [e] at h
  have e2 : stE nm ps b d v post' sq' = firstE [firstE [(chk nm ps).2, sysE b d v], stateE ps post' sq'] := rfl
  rw [e2, (firstE_cons h).1]
  have e3 : withinB post' 0 ps.length = true := by simp only [withinB, Bool.and_eq_true, decide_eq_true_eq]; omega
  have e4 : withinB sq' 0 20000000000 = true := by simp only [withinB, Bool.and_eq_true, decide_eq_true_eq]; omega
  unfold stateE
  rw [e3, e4]; rfl
theorem runE_at {nm : ByteArray} {ps : List Piece} {b d v post sq post' sq' stop : Int} (h : runE nm ps b d v post sq stop = 0) (hp : 0 ≤ post' ∧ post' ≤ ps.length) (hs : 0 ≤ sq' ∧ sq' ≤ 20000000000) (hps : post' ≤ stop) : runE nm ps b d v post' sq' stop = 0 := by
  have e : ∀ post sq, runE nm ps b d v post sq stop = firstE [firstE [(chk nm ps).2, sysE b d v], stateE ps post sq, stopE ps stop, unlessE (decide (post ≤ stop)) 9] := fun _ _ => rfl
  rw [e] at h ⊢
  obtain ⟨h1, h2⟩ := firstE_cons h
  obtain ⟨h5, h6⟩ := firstE_cons h2
  obtain ⟨h7, h8⟩ := firstE_cons h6
  have e3 : withinB post' 0 ps.length = true := by simp only [withinB, Bool.and_eq_true, decide_eq_true_eq]; omega
  have e4 : withinB sq' 0 20000000000 = true := by simp only [withinB, Bool.and_eq_true, decide_eq_true_eq]; omega
  have e5 : decide (post' ≤ stop) = true := by simpa using hps
  unfold stateE
  rw [h1, h7, e3, e4, e5]; rfl
theorem chk_zero {nm : ByteArray} {ps : List Piece} {b d v post sq stop : Int} (h : runE nm ps b d v post sq stop = 0) : (chk nm ps).2 = 0 := by
  have e : runE nm ps b d v post sq stop = firstE [firstE [(chk nm ps).2, sysE b d v], stateE ps post sq, stopE ps stop, unlessE (decide (post ≤ stop)) 9] := rfl
  rw [e] at h
  exact (firstE_cons (firstE_cons h).1).1
end Go.Proofs.Ytelgkjekpcfffaa
