/- Contracts of chapter 5: roots; the errors of squares. No conditions on a program. -/
import Derived.Test.YtgiiedpambimoaaK30
import Derived.Test.YtgiiedpambimoaaK20
namespace Go.Proofs.Ytgiiedpambimoaa
open Go Go.RowKit Go.Proofs
set_option linter.unusedSimpArgs false
set_option linter.unusedVariables false
theorem k24_az42 : (Try.prog.info? 42).bind (·.zero) = some (.agg #[.int .i64 0, .int .i64 0]) := by kernel_rfl
theorem k24_bz42 : (Try.prog.info? 42).bind (·.zero) = some (.agg #[.int .i64 0, .int .i64 0]) := by kernel_rfl
theorem k24_bu42 : Try.prog.underlying 42 = some (.struct (fsOf Try.prog 42)) := by kernel_rfl
theorem k24_bp42 : ∀ w, ((fsOf Try.prog 42).mapM fun f => Prod.mk f.offset <$> sizeOf f.type : Sem (Array (Nat × Nat))).run Try.prog w = .ok (#[(0, 1), (1, 1)]) w := fun _ => by kernel_rfl
theorem k24_fl42_0 : FldIs Try.prog 42 0 0 false 1 := by unfold FldIs; kernel_rfl
theorem k24_fl42_1 : FldIs Try.prog 42 1 1 false 1 := by unfold FldIs; kernel_rfl
theorem k24_fl51_1 : FldIs Try.prog 51 1 1 false 1 := by unfold FldIs; kernel_rfl
theorem k24_hcf10 : ∀ args w, (callFunc 10 args).run Try.prog w = .ok (.enter 10 args) w := fun _ _ => by kernel_rfl
theorem k24_hcf56 : ∀ args w, (callFunc 56 args).run Try.prog w = .ok (.enter 56 args) w := fun _ _ => by kernel_rfl
theorem k24_hcf57 : ∀ args w, (callFunc 57 args).run Try.prog w = .ok (.enter 57 args) w := fun _ _ => by kernel_rfl
theorem k24_hcf58 : ∀ args w, (callFunc 58 args).run Try.prog w = .ok (.enter 58 args) w := fun _ _ => by kernel_rfl
theorem k24_hcf61 : ∀ args w, (callFunc 61 args).run Try.prog w = .ok (.enter 61 args) w := fun _ _ => by kernel_rfl
theorem k24_hcf84 : ∀ args w, (callFunc 84 args).run Try.prog w = .ok (.enter 84 args) w := fun _ _ => by kernel_rfl
theorem k24_hcf85 : ∀ args w, (callFunc 85 args).run Try.prog w = .ok (.enter 85 args) w := fun _ _ => by kernel_rfl
theorem k24_hcf87 : ∀ args w, (callFunc 87 args).run Try.prog w = .ok (.enter 87 args) w := fun _ _ => by kernel_rfl
theorem k24_hcf91 : ∀ args w, (callFunc 91 args).run Try.prog w = .ok (.enter 91 args) w := fun _ _ => by kernel_rfl
theorem k24_sl126 : SlIs Try.prog 126 33 1 8 (.int .i64 0) := ⟨by kernel_rfl, by kernel_rfl, by kernel_rfl⟩
theorem k24_sl22 : SlIs Try.prog 22 3 1 8 (.int .i64 0) := ⟨by kernel_rfl, by kernel_rfl, by kernel_rfl⟩
theorem k24_sl49 : SlIs Try.prog 49 118 4 32 (.agg #[.int .i64 0, .int .i64 0, .int .i64 0, .bool false]) := ⟨by kernel_rfl, by kernel_rfl, by kernel_rfl⟩
theorem k24_sz3 : (Try.prog.info? 3).map (·.size) = some 1 := by kernel_rfl
theorem k24_sz42 : (Try.prog.info? 42).map (·.size) = some 2 := by kernel_rfl
theorem k24_ty105 : TyIs Try.prog 105 true 2 := ⟨by kernel_rfl, by kernel_rfl⟩
theorem k24_ty3 : TyIs Try.prog 3 false 1 := ⟨by kernel_rfl, by kernel_rfl⟩
theorem k24_ty42 : TyIs Try.prog 42 true 2 := ⟨by kernel_rfl, by kernel_rfl⟩
theorem k24_ty49 : TyIs Try.prog 49 false 1 := ⟨by kernel_rfl, by kernel_rfl⟩

def rtGo : Nat → Int → Int → Int
  | 0, r, _ => r
  | k + 1, r, n => if (r + 2 ^ k) * (r + 2 ^ k) ≤ n then rtGo k (r + 2 ^ k) n else rtGo k r n
def rt (n : Int) : Int := rtGo 31 0 n
theorem pow_pos2 (k : Nat) : (1 : Int) ≤ 2 ^ k := by
  induction k with
  | zero => decide
  | succ k ih => rw [Int.pow_succ]; omega
theorem rtGo_spec : ∀ (k : Nat) (r n : Int), 0 ≤ r → r * r ≤ n → n < (r + 2 ^ k) * (r + 2 ^ k) → 0 ≤ rtGo k r n ∧ rtGo k r n * rtGo k r n ≤ n ∧ n < (rtGo k r n + 1) * (rtGo k r n + 1)
  | 0, r, n, h0, h1, h2 => ⟨h0, h1, h2⟩
  | k + 1, r, n, h0, h1, h2 => by
    have hp := pow_pos2 k
    simp only [rtGo]
    split
    · rename_i hc
      refine rtGo_spec k _ n (by omega) hc ?_
      rw [show r + 2 ^ k + 2 ^ k = r + 2 ^ (k + 1) by rw [Int.pow_succ]; omega]; exact h2
    · rename_i hc
      exact rtGo_spec k r n h0 h1 (by omega)
theorem rt_spec {n : Int} (h0 : 0 ≤ n) (h1 : n ≤ 1000000000000) : 0 ≤ rt n ∧ rt n * rt n ≤ n ∧ n < (rt n + 1) * (rt n + 1) :=
  rtGo_spec 31 0 n (Int.le_refl _) (by omega) (by omega)
theorem sq_mono {a b : Int} (h0 : 0 ≤ a) (h : a ≤ b) : a * a ≤ b * b := Int.mul_le_mul h h h0 (by omega)
theorem rt_unique {n r s : Int} (hr : 0 ≤ r) (hs : 0 ≤ s) (h1 : r * r ≤ n) (h2 : n < (r + 1) * (r + 1)) (h3 : s * s ≤ n) (h4 : n < (s + 1) * (s + 1)) : r = s := by
  rcases Int.lt_trichotomy r s with h | h | h
  · have := sq_mono (a := r + 1) (b := s) (by omega) (by omega); omega
  · exact h
  · have := sq_mono (a := s + 1) (b := r) (by omega) (by omega); omega
theorem rt_bound {n : Int} (h0 : 0 ≤ n) (h1 : n ≤ 20000000000) : 0 ≤ rt n ∧ rt n ≤ 141422 := by
  obtain ⟨a, b, _⟩ := rt_spec h0 (by omega)
  refine ⟨a, ?_⟩
  by_cases h : rt n ≤ 141422
  · exact h
  · have := sq_mono (a := 141422) (b := rt n) (by omega) (by omega); omega
theorem rt_zero {n : Int} (h0 : 0 ≤ n) (h1 : n ≤ 20000000000) : rt n = 0 ↔ n = 0 := by
  obtain ⟨a, b, c⟩ := rt_spec h0 (by omega)
  constructor
  · intro h; rw [h] at c; omega
  · rintro rfl
    by_cases h : rt 0 = 0
    · exact h
    · have := sq_mono (a := 1) (b := rt 0) (by omega) (by omega); omega
/-- The least root whose square is at least this. -/
def ru (n : Int) : Int := if rt n * rt n < n then rt n + 1 else rt n
theorem ru_bound {n : Int} (h0 : 0 ≤ n) (h1 : n ≤ 20000000000) : 0 ≤ ru n ∧ ru n ≤ 141423 ∧ rt n ≤ ru n ∧ (ru n = 0 ↔ n = 0) := by
  have h := rt_bound h0 h1
  have hz := rt_zero h0 h1
  unfold ru
  split
  · rename_i hc
    refine ⟨by omega, by omega, by omega, ⟨fun hq => by omega, fun hq => ?_⟩⟩
    rw [hz.2 hq] at hc; omega
  · exact ⟨by omega, by omega, by omega, hz⟩
theorem root_mid {lo hi : Int} (h0 : 0 ≤ lo) (h1 : lo + 1 < hi) (h2 : hi ≤ 280000) : (lo < (lo + hi).tdiv 2 ∧ (lo + hi).tdiv 2 < hi) ∧ 0 ≤ (lo + hi).tdiv 2 * (lo + hi).tdiv 2 ∧ (lo + hi).tdiv 2 * (lo + hi).tdiv 2 ≤ 78400000000 := by
  have e : (lo + hi).tdiv 2 = (lo + hi) / 2 := Int.tdiv_eq_ediv_of_nonneg (by omega)
  rw [e]
  have h3 : lo < (lo + hi) / 2 ∧ (lo + hi) / 2 < hi := by omega
  have h4 := sq_mono (a := 0) (b := (lo + hi) / 2) (by omega) (by omega)
  have h5 := sq_mono (a := (lo + hi) / 2) (b := 280000) (by omega) (by omega)
  exact ⟨h3, by omega, by omega⟩
set_option maxRecDepth 100000 in
set_option maxHeartbeats 1000000 in
theorem root_ok (n : Int) (h0 : 0 ≤ n) (h1 : n ≤ 20000000000) : FnOk Try.prog 87 [iA n] (fun q => q = iA (rt n)) := by
  have hsp := rt_spec h0 (by omega)
  refine fnOk_of (fn := Try.f87) 22 (by kernel_rfl) rfl (by kernel_rfl) (Nat.le_of_ble_eq_true rfl) ?_
  intro e_0 m_0 hA hm_0
  have s0_0 : evA e_0 (.tmp 0) = _ := hA 0 _ rfl
  have ml_0 : m_0.length = 0 := by rw [hm_0]; rfl
  clear hA hm_0
  refine aw_seq ?_
  refine aw_text (by kernel_rfl) ?_
  refine al_ro' (ro_assign ev_c) trivial rfl ?_
  refine al_end (fun e_1 he_1 => ?_)
  have s0_1 := ef 0 he_1 (up_m rfl s0_0)
  clear he_1 s0_0
  refine then_n ?_
  refine aw_seq ?_
  refine aw_text (by kernel_rfl) ?_
  refine al_ro' (ro_assign ev_c) trivial rfl ?_
  refine al_ro' (ro_assign ev_c) trivial rfl ?_
  refine al_end (fun e_2 he_2 => ?_)
  have s0_2 := ef 0 he_2 (u2 rfl s0_1)
  have s3_2 := ef 3 he_2 (up_m rfl up_h)
  have s4_2 := ef 4 he_2 up_h
  clear he_2 s0_1
  refine then_n ?_
  refine aw_seq ?_
  refine aw_block ?_
  refine aw_loop (S := (Int × Int)) (fun s e mem => match s with | ⟨lo, hi⟩ => (evA e (.tmp 3) = .v (.int .i64 lo)) ∧ (evA e (.tmp 4) = .v (.int .i64 hi)) ∧ (evA e (.tmp 0) = evA e_2 (.tmp 0)) ∧ (mem.length = 0) ∧ ((0 ≤ lo ∧ lo < hi ∧ hi ≤ 280000 ∧ lo * lo ≤ n ∧ n < hi * hi))) (fun s => match s with | ⟨lo, hi⟩ => (hi - lo).toNat) ⟨0, 280000⟩ ⟨s3_2, s4_2, rfl, ml_0, ?_⟩ ?_
  · (exact ⟨by omega, by omega, by omega, by omega, by omega⟩)
  · rintro ⟨lo, hi⟩ e_3 m_3 ⟨s3_3, s4_3, k0_3, ml_3, hinv⟩
    have s0_3 := k0_3.trans s0_2
    (obtain ⟨p1, p2, p3, p4, p5⟩ := hinv)
    refine aw_seq ?_
    refine aw_seq ?_
    refine aw_text (by kernel_rfl) ?_
    refine al_ro' (ro_move s3_3) trivial rfl ?_
    first | (refine al_ro' (ro_add' up_h ev_c ?_) trivial rfl ?_; · (unfold In64; omega)) | refine al_ro' (ro_add up_h ev_c) trivial rfl ?_
    refine al_ro' (ro_move (u2 rfl s4_3)) trivial rfl ?_
    refine al_ro' (ro_lss (up_m rfl up_h) up_h) trivial rfl ?_
    refine al_end (fun e_4 he_4 => ?_)
    have s0_4 := ef 0 he_4 (u4 rfl s0_3)
    have s3_4 := ef 3 he_4 (u4 rfl s3_3)
    have s4_4 := ef 4 he_4 (u4 rfl s4_3)
    have s9_4 := ef 9 he_4 up_h
    clear he_4 s0_3 s3_3 s4_3
    refine then_n ?_
    refine aw_case s9_4 (fun hq_5 => ?_) (fun hq_5 => ?_)
    · (first | replace hq_5 := bnt hq_5 | replace hq_5 := bnf hq_5 | replace hq_5 := bt hq_5 | replace hq_5 := bf hq_5 | replace hq_5 := bt' hq_5 | replace hq_5 := bf' hq_5 | skip)
      first
      | (cases hq_5; done) | (exfalso; omega)
      | (
         (have hm := root_mid (lo := lo) (hi := hi) p1 (by omega) p3)
         refine aw_skip ?_
         refine then_n ?_
         refine aw_block ?_
         refine aw_seq ?_
         refine aw_text (by kernel_rfl) ?_
         refine al_ro' (ro_move s3_4) trivial rfl ?_
         refine al_ro' (ro_move (up_m rfl s4_4)) trivial rfl ?_
         first | (refine al_ro' (ro_add' (up_m rfl up_h) up_h ?_) trivial rfl ?_; · (unfold In64; omega)) | refine al_ro' (ro_add (up_m rfl up_h) up_h) trivial rfl ?_
         first | (refine al_ro' (ro_quo' up_h ev_c (by first | decide | omega) ?_) trivial rfl ?_; · (unfold In64; omega)) | refine al_ro' (ro_quo up_h ev_c (by first | decide | omega)) trivial rfl ?_
         refine al_ro' (ro_assign up_h) trivial rfl ?_
         refine al_end (fun e_6 he_6 => ?_)
         have s0_6 := ef 0 he_6 (up_m rfl (u4 rfl s0_4))
         have s3_6 := ef 3 he_6 (up_m rfl (u4 rfl s3_4))
         have s4_6 := ef 4 he_6 (up_m rfl (u4 rfl s4_4))
         have s5_6 := ef 5 he_6 up_h
         clear he_6 s0_4 s3_4 s4_4 s9_4
         refine then_n ?_
         refine aw_seq ?_
         refine aw_text (by kernel_rfl) ?_
         refine al_ro' (ro_move s5_6) trivial rfl ?_
         refine al_ro' (ro_move (up_m rfl s5_6)) trivial rfl ?_
         first | (refine al_ro' (ro_mul' (up_m rfl up_h) up_h ?_) trivial rfl ?_; · (unfold In64; omega)) | refine al_ro' (ro_mul (up_m rfl up_h) up_h) trivial rfl ?_
         refine al_ro' (ro_move (up_m rfl (u2 rfl s0_6))) trivial rfl ?_
         refine al_ro' (ro_leq (up_m rfl up_h) up_h) trivial rfl ?_
         refine al_end (fun e_7 he_7 => ?_)
         have s0_7 := ef 0 he_7 (up_m rfl (u4 rfl s0_6))
         have s3_7 := ef 3 he_7 (up_m rfl (u4 rfl s3_6))
         have s4_7 := ef 4 he_7 (up_m rfl (u4 rfl s4_6))
         have s5_7 := ef 5 he_7 (up_m rfl (u4 rfl s5_6))
         have s18_7 := ef 18 he_7 up_h
         clear he_7 s0_6 s3_6 s4_6 s5_6
         refine then_n ?_
         refine aw_case s18_7 (fun hq_8 => ?_) (fun hq_8 => ?_)
         · (first | replace hq_8 := bnt hq_8 | replace hq_8 := bnf hq_8 | replace hq_8 := bt hq_8 | replace hq_8 := bf hq_8 | replace hq_8 := bt' hq_8 | replace hq_8 := bf' hq_8 | skip)
           first
           | (cases hq_8; done) | (exfalso; omega)
           | (
              refine aw_text (by kernel_rfl) ?_
              refine al_ro' (ro_move s5_7) trivial rfl ?_
              refine al_ro' (ro_assign up_h) trivial rfl ?_
              refine al_end (fun e_9 he_9 => ?_)
              have s0_9 := ef 0 he_9 (u2 rfl s0_7)
              have s3_9 := ef 3 he_9 up_h
              have s4_9 := ef 4 he_9 (u2 rfl s4_7)
              clear he_9 s0_7 s18_7 s3_7 s4_7 s5_7
              refine block_n ?_
              refine then_n ?_
              refine ⟨⟨_, _⟩, ⟨s3_9, s4_9, (s0_9.trans s0_2.symm), ml_3, ?_⟩, ?_⟩
              · (exact ⟨by omega, by omega, by omega, by omega, by omega⟩)
              · ((try dsimp only); omega))
         · (first | replace hq_8 := bnt hq_8 | replace hq_8 := bnf hq_8 | replace hq_8 := bt hq_8 | replace hq_8 := bf hq_8 | replace hq_8 := bt' hq_8 | replace hq_8 := bf' hq_8 | skip)
           first
           | (cases hq_8; done) | (exfalso; omega)
           | (
              refine aw_text (by kernel_rfl) ?_
              refine al_ro' (ro_move s5_7) trivial rfl ?_
              refine al_ro' (ro_assign up_h) trivial rfl ?_
              refine al_end (fun e_10 he_10 => ?_)
              have s0_10 := ef 0 he_10 (u2 rfl s0_7)
              have s3_10 := ef 3 he_10 (u2 rfl s3_7)
              have s4_10 := ef 4 he_10 up_h
              clear he_10 s0_7 s18_7 s3_7 s4_7 s5_7
              refine block_n ?_
              refine then_n ?_
              refine ⟨⟨_, _⟩, ⟨s3_10, s4_10, (s0_10.trans s0_2.symm), ml_3, ?_⟩, ?_⟩
              · (exact ⟨by omega, by omega, by omega, by omega, by omega⟩)
              · ((try dsimp only); omega)))
    · (first | replace hq_5 := bnt hq_5 | replace hq_5 := bnf hq_5 | replace hq_5 := bt hq_5 | replace hq_5 := bf hq_5 | replace hq_5 := bt' hq_5 | replace hq_5 := bf' hq_5 | skip)
      first
      | (cases hq_5; done) | (exfalso; omega)
      | (
         refine aw_exit ?_
         refine then_x ?_
         refine then_x ?_
         refine block_hit ?_
         refine then_n ?_
         refine aw_seq ?_
         refine aw_text (by kernel_rfl) ?_
         refine al_ro' (ro_move s3_4) trivial rfl ?_
         refine al_ro' (ro_assign up_h) trivial rfl ?_
         refine al_end (fun e_11 he_11 => ?_)
         have s2_11 := ef 2 he_11 up_h
         clear he_11 s0_4 s3_4 s4_4 s9_4
         refine then_n ?_
         refine aw_ret ?_
         refine ret1 (.inr rfl) (by kernel_rfl) (resV_tmp s2_11) (.ro _ rfl) ?_
         clear s2_11  ml_3
         (refine avi ?_; exact rt_unique p1 hsp.1 p4 (by rw [show lo + 1 = hi by omega]; exact p5) hsp.2.1 hsp.2.2))
set_option maxRecDepth 100000 in
set_option maxHeartbeats 1000000 in
theorem roots_ok (n : Int) (h0 : 0 ≤ n) (h1 : n ≤ 20000000000) : FnOk Try.prog 67 [iA n] (fun q => q = .agg [iA (rt n), iA (ru n)]) := by
  have hb := rt_bound h0 h1
  have hsq := sq_mono (a := 0) (b := rt n) (by omega) (by omega)
  have hsq2 := sq_mono (a := rt n) (b := 141422) (by omega) (by omega)
  refine fnOk_of (fn := Try.f67) 21 (by kernel_rfl) rfl (by kernel_rfl) (Nat.le_of_ble_eq_true rfl) ?_
  intro e_0 m_0 hA hm_0
  have s0_0 : evA e_0 (.tmp 0) = _ := hA 0 _ rfl
  have ml_0 : m_0.length = 0 := by rw [hm_0]; rfl
  clear hA hm_0
  refine aw_seq ?_
  refine aw_text (by kernel_rfl) ?_
  refine al_stm (st_alloc k24_az42 rfl ml_0) trivial rfl (fun m_1 hm_1 => ?_)
  have mo0_1 := m_push hm_1 ml_0
  (try simp only [packA_t, packA_f, iE, bE, setAt, cellsA, Value.cells, map_vc, map_vn, Nat.reduceAdd, qS] at mo0_1)
  have ml_1 := m_push_l hm_1 ml_0
  have ml_1 : _ = 1 := ml_1
  clear hm_1
  refine al_end (fun e_2 he_2 => ?_)
  have s0_2 := ef 0 he_2 (up_m rfl s0_0)
  have s2_2 := ef 2 he_2 up_h
  clear he_2 s0_0
  refine then_n ?_
  refine aw_seq ?_
  refine aw_text (by kernel_rfl) ?_
  refine al_ro' (ro_move s0_2) trivial rfl ?_
  refine al_ro' (ro_call (evL_cons up_h evL_nil) rfl (root_ok n h0 h1) k24_hcf87) trivial rfl ?_
  refine al_ro' (ro_move (u2 rfl s0_2)) trivial rfl ?_
  refine al_ro' (ro_call (evL_cons up_h evL_nil) rfl (root_ok n h0 h1) k24_hcf87) trivial rfl ?_
  refine al_ro' (ro_build (evP_cons (u2 rfl up_h) (evP_cons up_h evP_nil)) k24_bz42 k24_bu42 k24_bp42 rfl) trivial rfl ?_
  refine al_stm (st_alloc k24_az42 rfl ml_1) trivial rfl (fun m_3 hm_3 => ?_)
  have mo1_3 := m_push hm_3 ml_1
  (try simp only [packA_t, packA_f, iE, bE, setAt, cellsA, Value.cells, map_vc, map_vn, Nat.reduceAdd, qS] at mo1_3)
  have mo0_3 := m_push_o hm_3 mo0_1
  have ml_3 := m_push_l hm_3 ml_1
  have ml_3 : _ = 2 := ml_3
  clear hm_3 mo0_1
  refine al_stm (st_store up_h (up_m rfl up_h) rfl rfl mo1_3 k24_sz42 rfl (by first | exact Nat.le_of_ble_eq_true rfl | omega | (simp only [lnS] <;> omega) | (simp <;> omega))) trivial rfl (fun m_4 hm_4 => ?_)
  have mo1_4 := m_set hm_4 mo1_3
  (try simp only [packA_t, packA_f, iE, bE, setAt, cellsA, Value.cells, map_vc, map_vn, Nat.reduceAdd, qS] at mo1_4)
  have mo0_4 := m_set_o hm_4 mo0_3 (by decide)
  have ml_4 := m_set_l hm_4 ml_3
  clear hm_4 mo1_3 mo0_3
  refine al_end (fun e_5 he_5 => ?_)
  have s0_5 := ef 0 he_5 (up_n (u2 rfl (u4 rfl s0_2)))
  have s2_5 := ef 2 he_5 (up_n (u2 rfl (u4 rfl s2_2)))
  have s3_5 := ef 3 he_5 (up_n up_h)
  clear he_5 s0_2 s2_2
  refine then_n ?_
  refine aw_seq ?_
  refine aw_seq ?_
  refine aw_text (by kernel_rfl) ?_
  refine al_ro' (ro_fld_ptr k24_fl42_0 rfl s3_5) trivial rfl ?_
  refine al_ro' (ro_eq (ro_ld_ptr k24_ty3 rfl mo1_4 up_h (by first | exact Nat.le_of_ble_eq_true rfl | omega | (simp only [lnS] <;> omega) | (simp <;> omega))) (by first | (simp only [packA_t, packA_f, iE, bE, setAt, cellsA, Value.cells, map_vc, map_vn, Nat.reduceAdd, qS] <;> rfl) | rfl)) trivial rfl ?_
  refine al_ro' (ro_fld_ptr k24_fl42_0 rfl (u2 rfl s3_5)) trivial rfl ?_
  refine al_ro' (ro_eq (ro_ld_ptr k24_ty3 rfl mo1_4 up_h (by first | exact Nat.le_of_ble_eq_true rfl | omega | (simp only [lnS] <;> omega) | (simp <;> omega))) (by first | (simp only [packA_t, packA_f, iE, bE, setAt, cellsA, Value.cells, map_vc, map_vn, Nat.reduceAdd, qS] <;> rfl) | rfl)) trivial rfl ?_
  first | (refine al_ro' (ro_mul' (u2 rfl up_h) up_h ?_) trivial rfl ?_; · (unfold In64; omega)) | refine al_ro' (ro_mul (u2 rfl up_h) up_h) trivial rfl ?_
  refine al_ro' (ro_move (up_m rfl (u4 rfl s0_5))) trivial rfl ?_
  refine al_ro' (ro_lss (up_m rfl up_h) up_h) trivial rfl ?_
  refine al_end (fun e_6 he_6 => ?_)
  have s2_6 := ef 2 he_6 (up_m rfl (u2 rfl (u4 rfl s2_5)))
  have s3_6 := ef 3 he_6 (up_m rfl (u2 rfl (u4 rfl s3_5)))
  have s15_6 := ef 15 he_6 up_h
  clear he_6 s0_5 s2_5 s3_5
  refine then_n ?_
  refine aw_case s15_6 (fun hq_7 => ?_) (fun hq_7 => ?_)
  · (first | replace hq_7 := bnt hq_7 | replace hq_7 := bnf hq_7 | replace hq_7 := bt hq_7 | replace hq_7 := bf hq_7 | replace hq_7 := bt' hq_7 | replace hq_7 := bf' hq_7 | skip)
    first
    | (cases hq_7; done) | (exfalso; omega)
    | (
       refine aw_text (by kernel_rfl) ?_
       refine al_ro' (ro_fld_ptr k24_fl42_1 rfl s3_6) trivial rfl ?_
       refine al_ro' (ro_eq (ro_ld_ptr k24_ty3 rfl mo1_4 up_h (by first | exact Nat.le_of_ble_eq_true rfl | omega | (simp only [lnS] <;> omega) | (simp <;> omega))) (by first | (simp only [packA_t, packA_f, iE, bE, setAt, cellsA, Value.cells, map_vc, map_vn, Nat.reduceAdd, qS] <;> rfl) | rfl)) trivial rfl ?_
       first | (refine al_ro' (ro_add' up_h ev_c ?_) trivial rfl ?_; · (unfold In64; omega)) | refine al_ro' (ro_add up_h ev_c) trivial rfl ?_
       refine al_ro' (ro_fld_ptr k24_fl42_1 rfl (up_m rfl (u2 rfl s3_6))) trivial rfl ?_
       refine al_stm (st_store up_h (up_m rfl up_h) rfl rfl mo1_4 k24_sz3 rfl (by first | exact Nat.le_of_ble_eq_true rfl | omega | (simp only [lnS] <;> omega) | (simp <;> omega))) trivial rfl (fun m_8 hm_8 => ?_)
       have mo1_8 := m_set hm_8 mo1_4
       (try simp only [packA_t, packA_f, iE, bE, setAt, cellsA, Value.cells, map_vc, map_vn, Nat.reduceAdd, qS] at mo1_8)
       have mo0_8 := m_set_o hm_8 mo0_4 (by decide)
       have ml_8 := m_set_l hm_8 ml_4
       clear hm_8 mo1_4 mo0_4
       refine al_end (fun e_9 he_9 => ?_)
       have s2_9 := ef 2 he_9 (up_n (u4 rfl s2_6))
       have s3_9 := ef 3 he_9 (up_n (u4 rfl s3_6))
       clear he_9 s15_6 s2_6 s3_6
       refine then_n ?_
       refine aw_seq ?_
       refine aw_text (by kernel_rfl) ?_
       refine al_ro' (ro_eq (ro_ld_ptr k24_ty42 rfl mo1_8 s3_9 (by first | exact Nat.le_of_ble_eq_true rfl | omega | (simp only [lnS] <;> omega) | (simp <;> omega))) (by first | (simp only [packA_t, packA_f, iE, bE, setAt, cellsA, Value.cells, map_vc, map_vn, Nat.reduceAdd, qS] <;> rfl) | rfl)) trivial rfl ?_
       refine al_stm (st_store (up_m rfl s2_9) up_h rfl rfl mo0_8 k24_sz42 rfl (by first | exact Nat.le_of_ble_eq_true rfl | omega | (simp only [lnS] <;> omega) | (simp <;> omega))) trivial rfl (fun m_10 hm_10 => ?_)
       have mo0_10 := m_set hm_10 mo0_8
       (try simp only [packA_t, packA_f, iE, bE, setAt, cellsA, Value.cells, map_vc, map_vn, Nat.reduceAdd, qS] at mo0_10)
       have mo1_10 := m_set_o hm_10 mo1_8 (by decide)
       have ml_10 := m_set_l hm_10 ml_8
       clear hm_10 mo1_8 mo0_8
       refine al_end (fun e_11 he_11 => ?_)
       have s2_11 := ef 2 he_11 (up_n (up_m rfl s2_9))
       clear he_11 s2_9 s3_9
       refine then_n ?_
       refine aw_ret ?_
       refine ret1 (.inr rfl) (by kernel_rfl) (resV_cell s2_11 mo0_10 k24_ty42 (by first | exact Nat.le_of_ble_eq_true rfl | omega | (simp only [lnS] <;> omega) | (simp <;> omega)) (by simp)) (vw_r (.ro _ rfl)) ?_
       clear s2_11 mo0_10 mo1_10 ml_10
       (unfold ru; first | (rw [if_pos (by assumption)]; rfl) | (rw [if_neg (by assumption)]; rfl)))
  · (first | replace hq_7 := bnt hq_7 | replace hq_7 := bnf hq_7 | replace hq_7 := bt hq_7 | replace hq_7 := bf hq_7 | replace hq_7 := bt' hq_7 | replace hq_7 := bf' hq_7 | skip)
    first
    | (cases hq_7; done) | (exfalso; omega)
    | (
       refine aw_skip ?_
       refine then_n ?_
       refine aw_seq ?_
       refine aw_text (by kernel_rfl) ?_
       refine al_ro' (ro_eq (ro_ld_ptr k24_ty42 rfl mo1_4 s3_6 (by first | exact Nat.le_of_ble_eq_true rfl | omega | (simp only [lnS] <;> omega) | (simp <;> omega))) (by first | (simp only [packA_t, packA_f, iE, bE, setAt, cellsA, Value.cells, map_vc, map_vn, Nat.reduceAdd, qS] <;> rfl) | rfl)) trivial rfl ?_
       refine al_stm (st_store (up_m rfl s2_6) up_h rfl rfl mo0_4 k24_sz42 rfl (by first | exact Nat.le_of_ble_eq_true rfl | omega | (simp only [lnS] <;> omega) | (simp <;> omega))) trivial rfl (fun m_12 hm_12 => ?_)
       have mo0_12 := m_set hm_12 mo0_4
       (try simp only [packA_t, packA_f, iE, bE, setAt, cellsA, Value.cells, map_vc, map_vn, Nat.reduceAdd, qS] at mo0_12)
       have mo1_12 := m_set_o hm_12 mo1_4 (by decide)
       have ml_12 := m_set_l hm_12 ml_4
       clear hm_12 mo1_4 mo0_4
       refine al_end (fun e_13 he_13 => ?_)
       have s2_13 := ef 2 he_13 (up_n (up_m rfl s2_6))
       clear he_13 s15_6 s2_6 s3_6
       refine then_n ?_
       refine aw_ret ?_
       refine ret1 (.inr rfl) (by kernel_rfl) (resV_cell s2_13 mo0_12 k24_ty42 (by first | exact Nat.le_of_ble_eq_true rfl | omega | (simp only [lnS] <;> omega) | (simp <;> omega)) (by simp)) (vw_r (.ro _ rfl)) ?_
       clear s2_13 mo0_12 mo1_12 ml_12
       (unfold ru; first | (rw [if_pos (by assumption)]; rfl) | (rw [if_neg (by assumption)]; rfl)))
/-- The error of squares. -/
def sqsE (ps : List Piece) (xs : List Int) : Int := if xs.length = ps.length + 1 then (if ∀ x ∈ xs, withinB x 0 20000000000 = true then 0 else 2) else 10
theorem all_pre {xs : List Int} {n : Nat} (h : ∀ j : Nat, j < n → withinB (xs.getD j default) 0 20000000000 = true) (hn : xs.length ≤ n) : ∀ x ∈ xs, withinB x 0 20000000000 = true := fun x hx => by
  obtain ⟨j, hj, rfl⟩ := List.getElem_of_mem hx
  have := h j (by omega)
  rwa [List.getD_eq_getElem?_getD, List.getElem?_eq_getElem hj] at this
theorem all_not {xs : List Int} {j : Nat} (hj : j < xs.length) (h : ¬ withinB (xs.getD j default) 0 20000000000 = true) : ¬ ∀ x ∈ xs, withinB x 0 20000000000 = true := fun hall => h (by
  rw [List.getD_eq_getElem?_getD, List.getElem?_eq_getElem hj]; exact hall _ (List.getElem_mem hj))
set_option maxRecDepth 100000 in
set_option maxHeartbeats 1000000 in
theorem sqBad_ok (n : Int) : FnOk Try.prog 85 [iA n] (fun q => q = bA (!withinB n 0 20000000000)) := by
  refine fnOk_of (fn := Try.f85) 6 (by kernel_rfl) rfl (by kernel_rfl) (Nat.le_of_ble_eq_true rfl) ?_
  intro e_0 m_0 hA hm_0
  have s0_0 : evA e_0 (.tmp 0) = _ := hA 0 _ rfl
  have ml_0 : m_0.length = 0 := by rw [hm_0]; rfl
  clear hA hm_0
  refine aw_seq ?_
  refine aw_text (by kernel_rfl) ?_
  refine al_ro' (ro_assign ev_c) trivial rfl ?_
  refine al_end (fun e_1 he_1 => ?_)
  have s0_1 := ef 0 he_1 (up_m rfl s0_0)
  clear he_1 s0_0
  refine then_n ?_
  refine aw_seq ?_
  refine aw_text (by kernel_rfl) ?_
  refine al_ro' (ro_move s0_1) trivial rfl ?_
  refine al_ro' (ro_call (evL_cons up_h evL_nil) rfl (isSquare_ok n) k24_hcf58) trivial rfl ?_
  refine al_ro' (ro_not up_h) trivial rfl ?_
  refine al_ro' (ro_assign up_h) trivial rfl ?_
  refine al_end (fun e_2 he_2 => ?_)
  have s2_2 := ef 2 he_2 up_h
  clear he_2 s0_1
  refine then_n ?_
  refine aw_ret ?_
  refine ret1 (.inr rfl) (by kernel_rfl) (resV_tmp s2_2) (.ro _ rfl) ?_
  clear s2_2  ml_0
  rfl
def badI (xs : List Int) : Int := match xs.findIdx? fun x => !withinB x 0 20000000000 with | some i => i | none => -1
theorem badI_all (xs : List Int) : badI xs < 0 ↔ ∀ x ∈ xs, withinB x 0 20000000000 = true := by
  unfold badI
  cases h : xs.findIdx? fun x => !withinB x 0 20000000000 with
  | none =>
    rw [List.findIdx?_eq_none_iff] at h
    simp only []
    exact ⟨fun _ x hx => by have := h x hx; simpa using this, fun _ => by decide⟩
  | some i =>
    simp only []
    obtain ⟨hi, h1, h2⟩ := List.findIdx?_eq_some_iff_getElem.1 h
    exact ⟨fun h => by omega, fun hall => by have := hall _ (List.getElem_mem hi); rw [this] at h1; cases h1⟩
theorem badI_at (xs : List Int) {i : Nat} (hi : i < xs.length) (h : ∀ j : Nat, j < i → withinB (xs.getD j default) 0 20000000000 = true) (hb : ¬ withinB (xs.getD i default) 0 20000000000 = true) : badI xs = i := by
  have : xs.findIdx? (fun x => !withinB x 0 20000000000) = some i := by
    rw [List.findIdx?_eq_some_iff_getElem]
    refine ⟨hi, ?_, fun j hj => ?_⟩
    · rw [List.getD_eq_getElem?_getD, List.getElem?_eq_getElem hi] at hb
      simpa using hb
    · have := h j hj
      rw [List.getD_eq_getElem?_getD, List.getElem?_eq_getElem (by omega)] at this
      simpa using this
  unfold badI; rw [this]
section
variable (xs : List Int) (hx : xs.length ≤ 1000000000)
include hx
set_option maxRecDepth 100000 in
set_option maxHeartbeats 1000000 in
theorem copyInts_ok : FnOk Try.prog 23 [.row 1 (xs.map iE)] (fun q => q = .row 1 (xs.map iE)) := by
  refine fnOk_of (fn := Try.f23) 6 (by kernel_rfl) rfl (by kernel_rfl) (Nat.le_of_ble_eq_true rfl) ?_
  intro e_0 m_0 hA hm_0
  have s0_0 : evA e_0 (.tmp 0) = _ := hA 0 _ rfl
  have ml_0 : m_0.length = 0 := by rw [hm_0]; rfl
  clear hA hm_0
  refine aw_seq ?_
  refine aw_text (by kernel_rfl) ?_
  refine al_ro' (ro_assign ev_c) trivial rfl ?_
  refine al_end (fun e_1 he_1 => ?_)
  have s0_1 := ef 0 he_1 (up_m rfl s0_0)
  clear he_1 s0_0
  refine then_n ?_
  refine aw_seq ?_
  refine aw_text (by kernel_rfl) ?_
  refine al_ro' (ro_lit0 k24_sl22) trivial rfl ?_
  refine al_ro' (ro_move (up_m rfl s0_1)) trivial rfl ?_
  refine al_ro' (ro_ape k24_sl22 rfl (up_m rfl up_h) up_h (by first | omega | (simp only [lnS] <;> omega) | (simp <;> omega))) trivial rfl ?_
  refine al_ro' (ro_assign up_h) trivial rfl ?_
  refine al_end (fun e_2 he_2 => ?_)
  have s2_2 := ef 2 he_2 up_h
  clear he_2 s0_1
  refine then_n ?_
  refine aw_ret ?_
  refine ret1 (.inr rfl) (by kernel_rfl) (resV_tmp s2_2) (.ro _ rfl) ?_
  clear s2_2  ml_0
  rfl
set_option maxRecDepth 100000 in
set_option maxHeartbeats 1000000 in
theorem indexBad_ok : FnOk Try.prog 91 [.row 1 (xs.map iE), .v (.func (.func 85) #[] #[])] (fun q => q = iA (badI xs)) := by
  refine fnOk_of (fn := Try.f91) 19 (by kernel_rfl) rfl (by kernel_rfl) (Nat.le_of_ble_eq_true rfl) ?_
  intro e_0 m_0 hA hm_0
  have s0_0 : evA e_0 (.tmp 0) = _ := hA 0 _ rfl
  have s1_0 : evA e_0 (.tmp 1) = _ := hA 1 _ rfl
  have ml_0 : m_0.length = 0 := by rw [hm_0]; rfl
  clear hA hm_0
  refine aw_seq ?_
  refine aw_text (by kernel_rfl) ?_
  refine al_ro' (ro_assign ev_c) trivial rfl ?_
  refine al_end (fun e_1 he_1 => ?_)
  have s0_1 := ef 0 he_1 (up_m rfl s0_0)
  have s1_1 := ef 1 he_1 (up_m rfl s1_0)
  clear he_1 s0_0 s1_0
  refine then_n ?_
  refine aw_seq ?_
  refine aw_seq ?_
  refine aw_text (by kernel_rfl) ?_
  refine al_ro' (ro_move s0_1) trivial rfl ?_
  refine al_ro' (ro_eq (ro_len_row up_h rfl k24_sl22.1) (by first | (simp only [lnS] <;> rfl) | rfl)) trivial rfl ?_
  refine al_ro' (ro_move ev_c) trivial rfl ?_
  refine al_end (fun e_2 he_2 => ?_)
  have s0_2 := ef 0 he_2 (up_m rfl (u2 rfl s0_1))
  have s1_2 := ef 1 he_2 (up_m rfl (u2 rfl s1_1))
  have s7_2 := ef 7 he_2 (up_m rfl up_h)
  have s8_2 := ef 8 he_2 up_h
  clear he_2 s0_1 s1_1
  refine then_n ?_
  refine aw_block ?_
  refine aw_loop (S := Int) (fun i e mem => (evA e (.tmp 8) = .v (.int .i64 i)) ∧ (evA e (.tmp 0) = evA e_2 (.tmp 0)) ∧ (evA e (.tmp 1) = evA e_2 (.tmp 1)) ∧ (evA e (.tmp 7) = evA e_2 (.tmp 7)) ∧ (mem.length = 0) ∧ ((0 ≤ i ∧ i ≤ xs.length ∧ ∀ j : Nat, j < i.toNat → withinB (xs.getD j default) 0 20000000000 = true))) (fun i => (xs.length - i).toNat) _ ⟨s8_2, rfl, rfl, rfl, ml_0, ?_⟩ ?_
  · (exact ⟨by omega, by omega, fun j h => absurd h (by omega)⟩)
  · rintro i e_3 m_3 ⟨s8_3, k0_3, k1_3, k7_3, ml_3, hinv⟩
    have s0_3 := k0_3.trans s0_2
    have s1_3 := k1_3.trans s1_2
    have s7_3 := k7_3.trans s7_2
    (obtain ⟨p1, p2, p3⟩ := hinv)
    refine aw_seq ?_
    refine aw_text (by kernel_rfl) ?_
    refine al_ro' (ro_lss s8_3 s7_3) trivial rfl ?_
    refine al_end (fun e_4 he_4 => ?_)
    have s0_4 := ef 0 he_4 (up_m rfl s0_3)
    have s1_4 := ef 1 he_4 (up_m rfl s1_3)
    have s7_4 := ef 7 he_4 (up_m rfl s7_3)
    have s8_4 := ef 8 he_4 (up_m rfl s8_3)
    have s9_4 := ef 9 he_4 up_h
    clear he_4 s0_3 s1_3 s7_3 s8_3
    refine then_n ?_
    refine aw_seq ?_
    refine aw_case s9_4 (fun hq_5 => ?_) (fun hq_5 => ?_)
    · (first | replace hq_5 := bnt hq_5 | replace hq_5 := bnf hq_5 | replace hq_5 := bt hq_5 | replace hq_5 := bf hq_5 | replace hq_5 := bt' hq_5 | replace hq_5 := bf' hq_5 | skip)
      first
      | (cases hq_5; done) | (exfalso; omega)
      | (
         refine aw_skip ?_
         refine then_n ?_
         refine aw_seq ?_
         refine aw_block ?_
         refine aw_seq ?_
         refine aw_text (by kernel_rfl) ?_
         refine al_ro' (ro_move s8_4) trivial rfl ?_
         refine al_ro' (ro_assign up_h) trivial rfl ?_
         refine al_end (fun e_6 he_6 => ?_)
         have s0_6 := ef 0 he_6 (u2 rfl s0_4)
         have s1_6 := ef 1 he_6 (u2 rfl s1_4)
         have s5_6 := ef 5 he_6 up_h
         have s7_6 := ef 7 he_6 (u2 rfl s7_4)
         have s8_6 := ef 8 he_6 (u2 rfl s8_4)
         clear he_6 s0_4 s1_4 s7_4 s8_4 s9_4
         refine then_n ?_
         refine aw_seq ?_
         refine aw_text (by kernel_rfl) ?_
         refine al_ro' (ro_move s1_6) trivial rfl ?_
         refine al_ro' (ro_move (up_m rfl s0_6)) trivial rfl ?_
         refine al_ro' (ro_move (u2 rfl s5_6)) trivial rfl ?_
         refine al_ro' (ro_eq (ro_ix k24_sl22 (up_m rfl up_h) up_h (by first | decide | omega | (simp <;> omega)) (by first | (refine idx_map ?_; first | omega | (simp only [lnS]; omega)) | (refine idx_mapI ?_; first | omega | (simp only [lnS]; omega)) | (refine idx_mapN ?_; first | omega | (simp only [lnS]; omega)) | rfl)) (by first | (simp only [packA_t, packA_f, iE, bE, setAt, cellsA, Value.cells, map_vc, map_vn, Nat.reduceAdd, qS] <;> rfl) | rfl)) trivial rfl ?_
         refine al_ro' (ro_eq (ro_ld_ref k24_ty3 rfl up_h (by first | exact Nat.le_of_ble_eq_true rfl | omega | (simp only [lnS] <;> omega) | (simp <;> omega))) (by first | (simp only [packA_t, packA_f, iE, bE, setAt, cellsA, Value.cells, map_vc, map_vn, Nat.reduceAdd, qS] <;> rfl) | rfl)) trivial rfl ?_
         refine al_ro' (ro_callf (u4 rfl up_h) (evL_cons up_h evL_nil) rfl (sqBad_ok _) k24_hcf85) trivial rfl ?_
         refine al_end (fun e_7 he_7 => ?_)
         have s0_7 := ef 0 he_7 (u2 rfl (u4 rfl s0_6))
         have s1_7 := ef 1 he_7 (u2 rfl (u4 rfl s1_6))
         have s5_7 := ef 5 he_7 (u2 rfl (u4 rfl s5_6))
         have s7_7 := ef 7 he_7 (u2 rfl (u4 rfl s7_6))
         have s8_7 := ef 8 he_7 (u2 rfl (u4 rfl s8_6))
         have s16_7 := ef 16 he_7 up_h
         clear he_7 s0_6 s1_6 s5_6 s7_6 s8_6
         refine then_n ?_
         refine aw_case s16_7 (fun hq_8 => ?_) (fun hq_8 => ?_)
         · (first | replace hq_8 := bnt hq_8 | replace hq_8 := bnf hq_8 | replace hq_8 := bt hq_8 | replace hq_8 := bf hq_8 | replace hq_8 := bt' hq_8 | replace hq_8 := bf' hq_8 | skip)
           first
           | (cases hq_8; done) | (exfalso; omega)
           | (
              refine aw_seq ?_
              refine aw_text (by kernel_rfl) ?_
              refine al_ro' (ro_move s5_7) trivial rfl ?_
              refine al_ro' (ro_assign up_h) trivial rfl ?_
              refine al_end (fun e_9 he_9 => ?_)
              have s4_9 := ef 4 he_9 up_h
              clear he_9 s0_7 s16_7 s1_7 s5_7 s7_7 s8_7
              refine then_n ?_
              refine aw_ret ?_
              refine block_r ?_
              refine then_r ?_
              refine then_r ?_
              refine block_r ?_
              refine then_r ?_
              refine ret1 (.inr rfl) (by kernel_rfl) (resV_tmp s4_9) (.ro _ rfl) ?_
              clear s4_9  ml_3
              (refine avi ?_; rw [badI_at xs (i := i.toNat) (by omega) p3 (by simpa using (by assumption))]; omega))
         · (first | replace hq_8 := bnt hq_8 | replace hq_8 := bnf hq_8 | replace hq_8 := bt hq_8 | replace hq_8 := bf hq_8 | replace hq_8 := bt' hq_8 | replace hq_8 := bf' hq_8 | skip)
           first
           | (cases hq_8; done) | (exfalso; omega)
           | (
              refine aw_skip ?_
              refine block_n ?_
              refine then_n ?_
              refine aw_text (by kernel_rfl) ?_
              first | (refine al_ro' (ro_add' s8_7 ev_c ?_) trivial rfl ?_; · (unfold In64; omega)) | refine al_ro' (ro_add s8_7 ev_c) trivial rfl ?_
              refine al_ro' (ro_move up_h) trivial rfl ?_
              refine al_end (fun e_10 he_10 => ?_)
              have s0_10 := ef 0 he_10 (u2 rfl s0_7)
              have s1_10 := ef 1 he_10 (u2 rfl s1_7)
              have s7_10 := ef 7 he_10 (u2 rfl s7_7)
              have s8_10 := ef 8 he_10 up_h
              clear he_10 s0_7 s16_7 s1_7 s5_7 s7_7 s8_7
              refine then_n ?_
              refine ⟨_, ⟨s8_10, (s0_10.trans s0_2.symm), (s1_10.trans s1_2.symm), (s7_10.trans s7_2.symm), ml_3, ?_⟩, ?_⟩
              · (refine ⟨by omega, by omega, fun j hj => ?_⟩; by_cases hji : j < i.toNat; (exact p3 j hji); (rw [show j = i.toNat by omega]; assumption))
              · ((try dsimp only); omega)))
    · (first | replace hq_5 := bnt hq_5 | replace hq_5 := bnf hq_5 | replace hq_5 := bt hq_5 | replace hq_5 := bf hq_5 | replace hq_5 := bt' hq_5 | replace hq_5 := bf' hq_5 | skip)
      first
      | (cases hq_5; done) | (exfalso; omega)
      | (
         refine aw_exit ?_
         refine then_x ?_
         refine then_x ?_
         refine block_hit ?_
         refine then_n ?_
         refine aw_seq ?_
         refine aw_text (by kernel_rfl) ?_
         refine al_ro' (ro_assign ev_c) trivial rfl ?_
         refine al_end (fun e_11 he_11 => ?_)
         have s4_11 := ef 4 he_11 up_h
         clear he_11 s0_4 s1_4 s7_4 s8_4 s9_4
         refine then_n ?_
         refine aw_ret ?_
         refine ret1 (.inr rfl) (by kernel_rfl) (resV_tmp s4_11) (.ro _ rfl) ?_
         clear s4_11  ml_3
         (refine avi ?_; have hb := (badI_all xs).2 (all_pre (n := i.toNat) p3 (by omega)); unfold badI at hb ⊢; revert hb; cases xs.findIdx? fun x => !withinB x 0 20000000000 with | none => (intro _; rfl) | some i => (intro h; simp at h; omega)))
set_option maxRecDepth 100000 in
set_option maxHeartbeats 1000000 in
theorem containsBad_ok : FnOk Try.prog 84 [.row 1 (xs.map iE), .v (.func (.func 85) #[] #[])] (fun q => q = bA (decide (0 ≤ badI xs))) := by
  refine fnOk_of (fn := Try.f84) 9 (by kernel_rfl) rfl (by kernel_rfl) (Nat.le_of_ble_eq_true rfl) ?_
  intro e_0 m_0 hA hm_0
  have s0_0 : evA e_0 (.tmp 0) = _ := hA 0 _ rfl
  have s1_0 : evA e_0 (.tmp 1) = _ := hA 1 _ rfl
  have ml_0 : m_0.length = 0 := by rw [hm_0]; rfl
  clear hA hm_0
  refine aw_seq ?_
  refine aw_text (by kernel_rfl) ?_
  refine al_ro' (ro_assign ev_c) trivial rfl ?_
  refine al_end (fun e_1 he_1 => ?_)
  have s0_1 := ef 0 he_1 (up_m rfl s0_0)
  have s1_1 := ef 1 he_1 (up_m rfl s1_0)
  clear he_1 s0_0 s1_0
  refine then_n ?_
  refine aw_seq ?_
  refine aw_text (by kernel_rfl) ?_
  refine al_ro' (ro_move s0_1) trivial rfl ?_
  refine al_ro' (ro_move (up_m rfl s1_1)) trivial rfl ?_
  refine al_ro' (ro_call (evL_cons (up_m rfl up_h) (evL_cons up_h evL_nil)) rfl (indexBad_ok xs hx) k24_hcf91) trivial rfl ?_
  refine al_ro' (ro_geq up_h ev_c) trivial rfl ?_
  refine al_ro' (ro_assign up_h) trivial rfl ?_
  refine al_end (fun e_2 he_2 => ?_)
  have s4_2 := ef 4 he_2 up_h
  clear he_2 s0_1 s1_1
  refine then_n ?_
  refine aw_ret ?_
  refine ret1 (.inr rfl) (by kernel_rfl) (resV_tmp s4_2) (.ro _ rfl) ?_
  clear s4_2  ml_0
  rfl
set_option maxRecDepth 100000 in
set_option maxHeartbeats 1000000 in
theorem squaresErr_ok (nm : ByteArray) (ps : List Piece) (hp : ps.length ≤ 1000000000) : FnOk Try.prog 63 [trA nm ps, .row 1 (xs.map iE)] (fun q => q = iA (sqsE ps xs)) := by
  refine fnOk_of (fn := Try.f63) 20 (by kernel_rfl) rfl (by kernel_rfl) (Nat.le_of_ble_eq_true rfl) ?_
  intro e_0 m_0 hA hm_0
  have s0_0 : evA e_0 (.tmp 0) = _ := hA 0 _ rfl
  have s1_0 : evA e_0 (.tmp 1) = _ := hA 1 _ rfl
  have ml_0 : m_0.length = 0 := by rw [hm_0]; rfl
  clear hA hm_0
  refine aw_seq ?_
  refine aw_text (by kernel_rfl) ?_
  refine al_stm (st_box s0_0 rfl ml_0) trivial rfl (fun m_1 hm_1 => ?_)
  have mo0_1 := m_push hm_1 ml_0
  (try simp only [packA_t, packA_f, iE, bE, setAt, cellsA, Value.cells, map_vc, map_vn, Nat.reduceAdd, qS] at mo0_1)
  have ml_1 := m_push_l hm_1 ml_0
  have ml_1 : _ = 1 := ml_1
  clear hm_1
  refine al_ro' (ro_assign ev_c) trivial rfl ?_
  refine al_end (fun e_2 he_2 => ?_)
  have s1_2 := ef 1 he_2 (u2 rfl s1_0)
  have s2_2 := ef 2 he_2 (up_m rfl up_h)
  clear he_2 s0_0 s1_0
  refine then_n ?_
  refine aw_seq ?_
  refine aw_text (by kernel_rfl) ?_
  refine al_ro' (ro_move s1_2) trivial rfl ?_
  refine al_ro' (ro_call (evL_cons up_h (evL_cons ev_f evL_nil)) rfl (containsBad_ok xs hx) k24_hcf84) trivial rfl ?_
  refine al_ro' (ro_assign up_h) trivial rfl ?_
  refine al_end (fun e_3 he_3 => ?_)
  have s1_3 := ef 1 he_3 (up_m rfl (u2 rfl s1_2))
  have s2_3 := ef 2 he_3 (up_m rfl (u2 rfl s2_2))
  have s5_3 := ef 5 he_3 up_h
  clear he_3 s1_2 s2_2
  refine then_n ?_
  refine aw_seq ?_
  refine aw_text (by kernel_rfl) ?_
  refine al_ro' (ro_move s1_3) trivial rfl ?_
  refine al_ro' (ro_eq (ro_len_row up_h rfl k24_sl22.1) (by first | (simp only [lnS] <;> rfl) | rfl)) trivial rfl ?_
  refine al_ro' (ro_eq (ro_ld_ptr k24_ty105 rfl mo0_1 (u2 rfl s2_3) (by first | exact Nat.le_of_ble_eq_true rfl | omega | (simp only [lnS] <;> omega) | (simp <;> omega))) (by first | (simp only [packA_t, packA_f, iE, bE, setAt, cellsA, Value.cells, map_vc, map_vn, Nat.reduceAdd, qS] <;> rfl) | rfl)) trivial rfl ?_
  refine al_ro' (ro_call (evL_cons up_h evL_nil) rfl (last_ok nm ps) k24_hcf61) trivial rfl ?_
  first | (refine al_ro' (ro_add' up_h ev_c ?_) trivial rfl ?_; · (unfold In64; omega)) | refine al_ro' (ro_add up_h ev_c) trivial rfl ?_
  refine al_ro' (ro_eql (up_m rfl (u2 rfl up_h)) up_h) trivial rfl ?_
  refine al_ro' (ro_call (evL_cons up_h (evL_cons ev_c evL_nil)) rfl (unless_ok _ _) k24_hcf57) trivial rfl ?_
  refine al_ro' (ro_move (up_m rfl (u2 rfl (u4 rfl s5_3)))) trivial rfl ?_
  refine al_ro' (ro_not up_h) trivial rfl ?_
  refine al_ro' (ro_call (evL_cons up_h (evL_cons ev_c evL_nil)) rfl (unless_ok _ _) k24_hcf57) trivial rfl ?_
  refine al_ro' (ro_lit k24_sl126 (evP_cons (up_m rfl (u2 rfl up_h)) (evP_cons up_h evP_nil)) rfl rfl rfl rfl) trivial rfl ?_
  refine al_ro' (ro_call (evL_cons up_h evL_nil) rfl (first_ok [_, _] (by simp)) k24_hcf56) trivial rfl ?_
  refine al_ro' (ro_assign up_h) trivial rfl ?_
  refine al_end (fun e_4 he_4 => ?_)
  have s4_4 := ef 4 he_4 up_h
  clear he_4 s1_3 s2_3 s5_3
  refine then_n ?_
  refine aw_ret ?_
  refine ret1 (.inr rfl) (by kernel_rfl) (resV_tmp s4_4) (.ro _ rfl) ?_
  clear s4_4 mo0_1 ml_1
  (refine avi ?_; rw [firstE_two]; have hb := badI_all xs; unfold sqsE; by_cases h1 : xs.length = ps.length + 1; (rw [if_pos h1, if_pos (by simp [unlessE]; omega)]; by_cases h2 : ∀ x ∈ xs, withinB x 0 20000000000 = true; (rw [if_pos h2]; have h3 := hb.2 h2; simp [unlessE]; omega); (rw [if_neg h2]; have h3 : ¬ badI xs < 0 := (fun q => h2 (hb.1 q)); simp [unlessE]; omega)); (rw [if_neg h1]; have h4 : unlessE (decide ((xs.length : Int) = ps.length + 1)) 10 = 10 := (by have : ¬ ((xs.length : Int) = ps.length + 1) := (by omega); simp [unlessE, this]); rw [h4]; rfl))
set_option maxRecDepth 100000 in
set_option maxHeartbeats 1000000 in
theorem rSquaresErr_ok (nm : ByteArray) (ps : List Piece) (hp : ps.length ≤ 1000000000) : FnOk Try.prog 24 [trA nm ps, .row 1 (xs.map iE)] (fun q => q = iA (sqsE ps xs)) := by
  refine fnOk_of (fn := Try.f24) 25 (by kernel_rfl) rfl (by kernel_rfl) (Nat.le_of_ble_eq_true rfl) ?_
  intro e_0 m_0 hA hm_0
  have s0_0 : evA e_0 (.tmp 0) = _ := hA 0 _ rfl
  have s1_0 : evA e_0 (.tmp 1) = _ := hA 1 _ rfl
  have ml_0 : m_0.length = 0 := by rw [hm_0]; rfl
  clear hA hm_0
  refine aw_seq ?_
  refine aw_text (by kernel_rfl) ?_
  refine al_stm (st_box s0_0 rfl ml_0) trivial rfl (fun m_1 hm_1 => ?_)
  have mo0_1 := m_push hm_1 ml_0
  (try simp only [packA_t, packA_f, iE, bE, setAt, cellsA, Value.cells, map_vc, map_vn, Nat.reduceAdd, qS] at mo0_1)
  have ml_1 := m_push_l hm_1 ml_0
  have ml_1 : _ = 1 := ml_1
  clear hm_1
  refine al_ro' (ro_assign ev_c) trivial rfl ?_
  refine al_end (fun e_2 he_2 => ?_)
  have s1_2 := ef 1 he_2 (u2 rfl s1_0)
  have s2_2 := ef 2 he_2 (up_m rfl up_h)
  clear he_2 s0_0 s1_0
  refine then_n ?_
  refine aw_seq ?_
  refine aw_seq ?_
  refine aw_text (by kernel_rfl) ?_
  refine al_ro' (ro_move s1_2) trivial rfl ?_
  refine al_ro' (ro_eq (ro_len_row up_h rfl k24_sl22.1) (by first | (simp only [lnS] <;> rfl) | rfl)) trivial rfl ?_
  refine al_ro' (ro_fld_ptr k24_fl51_1 rfl (u2 rfl s2_2)) trivial rfl ?_
  refine al_ro' (ro_eq (ro_ld_ptr k24_ty49 rfl mo0_1 up_h (by first | exact Nat.le_of_ble_eq_true rfl | omega | (simp only [lnS] <;> omega) | (simp <;> omega))) (by first | (simp only [packA_t, packA_f, iE, bE, setAt, cellsA, Value.cells, map_vc, map_vn, Nat.reduceAdd, qS] <;> rfl) | rfl)) trivial rfl ?_
  refine al_ro' (ro_eq (ro_len_row up_h rfl k24_sl49.1) (by first | (simp only [lnS] <;> rfl) | rfl)) trivial rfl ?_
  first | (refine al_ro' (ro_add' up_h ev_c ?_) trivial rfl ?_; · (unfold In64; omega)) | refine al_ro' (ro_add up_h ev_c) trivial rfl ?_
  refine al_ro' (ro_neq (u4 rfl up_h) up_h) trivial rfl ?_
  refine al_end (fun e_3 he_3 => ?_)
  have s1_3 := ef 1 he_3 (up_m rfl (u2 rfl (u4 rfl s1_2)))
  have s12_3 := ef 12 he_3 up_h
  clear he_3 s1_2 s2_2
  refine then_n ?_
  refine aw_case s12_3 (fun hq_4 => ?_) (fun hq_4 => ?_)
  · (first | replace hq_4 := bnt hq_4 | replace hq_4 := bnf hq_4 | replace hq_4 := bt hq_4 | replace hq_4 := bf hq_4 | replace hq_4 := bt' hq_4 | replace hq_4 := bf' hq_4 | skip)
    first
    | (cases hq_4; done) | (exfalso; omega)
    | (
       refine aw_seq ?_
       refine aw_text (by kernel_rfl) ?_
       refine al_ro' (ro_assign ev_c) trivial rfl ?_
       refine al_end (fun e_5 he_5 => ?_)
       have s4_5 := ef 4 he_5 up_h
       clear he_5 s12_3 s1_3
       refine then_n ?_
       refine aw_ret ?_
       refine then_r ?_
       refine ret1 (.inr rfl) (by kernel_rfl) (resV_tmp s4_5) (.ro _ rfl) ?_
       clear s4_5 mo0_1 ml_1
       (refine avi ?_; unfold sqsE; rw [if_neg (by omega)]))
  · (first | replace hq_4 := bnt hq_4 | replace hq_4 := bnf hq_4 | replace hq_4 := bt hq_4 | replace hq_4 := bf hq_4 | replace hq_4 := bt' hq_4 | replace hq_4 := bf' hq_4 | skip)
    first
    | (cases hq_4; done) | (exfalso; omega)
    | (
       refine aw_skip ?_
       refine then_n ?_
       refine aw_seq ?_
       refine aw_seq ?_
       refine aw_text (by kernel_rfl) ?_
       refine al_ro' (ro_assign ev_c) trivial rfl ?_
       refine al_end (fun e_6 he_6 => ?_)
       have s1_6 := ef 1 he_6 (up_m rfl s1_3)
       have s5_6 := ef 5 he_6 up_h
       clear he_6 s12_3 s1_3
       refine then_n ?_
       refine aw_block ?_
       refine aw_loop (S := Int) (fun i e mem => (evA e (.tmp 5) = .v (.int .i64 i)) ∧ (evA e (.tmp 1) = evA e_6 (.tmp 1)) ∧ (mem[0]? = m_1[0]?) ∧ (mem.length = 1) ∧ ((0 ≤ i ∧ i ≤ xs.length ∧ ∀ j : Nat, j < i.toNat → withinB (xs.getD j default) 0 20000000000 = true))) (fun i => (xs.length - i).toNat) _ ⟨s5_6, rfl, rfl, ml_1, ?_⟩ ?_
       · (exact ⟨by omega, by omega, fun j h => absurd h (by omega)⟩)
       · rintro i e_7 m_7 ⟨s5_7, k1_7, mk0_7, ml_7, hinv⟩
         have s1_7 := k1_7.trans s1_6
         have mo0_7 := mk0_7.trans mo0_1
         (obtain ⟨p1, p2, p3⟩ := hinv)
         refine aw_seq ?_
         refine aw_seq ?_
         refine aw_text (by kernel_rfl) ?_
         refine al_ro' (ro_move s5_7) trivial rfl ?_
         refine al_ro' (ro_move (up_m rfl s1_7)) trivial rfl ?_
         refine al_ro' (ro_eq (ro_len_row up_h rfl k24_sl22.1) (by first | (simp only [lnS] <;> rfl) | rfl)) trivial rfl ?_
         refine al_ro' (ro_lss (u2 rfl up_h) up_h) trivial rfl ?_
         refine al_end (fun e_8 he_8 => ?_)
         have s1_8 := ef 1 he_8 (u4 rfl s1_7)
         have s5_8 := ef 5 he_8 (u4 rfl s5_7)
         have s16_8 := ef 16 he_8 up_h
         clear he_8 s1_7 s5_7
         refine then_n ?_
         refine aw_case s16_8 (fun hq_9 => ?_) (fun hq_9 => ?_)
         · (first | replace hq_9 := bnt hq_9 | replace hq_9 := bnf hq_9 | replace hq_9 := bt hq_9 | replace hq_9 := bf hq_9 | replace hq_9 := bt' hq_9 | replace hq_9 := bf' hq_9 | skip)
           first
           | (cases hq_9; done) | (exfalso; omega)
           | (
              refine aw_skip ?_
              refine then_n ?_
              refine aw_seq ?_
              refine aw_block ?_
              refine aw_seq ?_
              refine aw_text (by kernel_rfl) ?_
              refine al_ro' (ro_move s1_8) trivial rfl ?_
              refine al_ro' (ro_move (up_m rfl s5_8)) trivial rfl ?_
              refine al_ro' (ro_eq (ro_ix k24_sl22 (up_m rfl up_h) up_h (by first | decide | omega | (simp <;> omega)) (by first | (refine idx_map ?_; first | omega | (simp only [lnS]; omega)) | (refine idx_mapI ?_; first | omega | (simp only [lnS]; omega)) | (refine idx_mapN ?_; first | omega | (simp only [lnS]; omega)) | rfl)) (by first | (simp only [packA_t, packA_f, iE, bE, setAt, cellsA, Value.cells, map_vc, map_vn, Nat.reduceAdd, qS] <;> rfl) | rfl)) trivial rfl ?_
              refine al_ro' (ro_eq (ro_ld_ref k24_ty3 rfl up_h (by first | exact Nat.le_of_ble_eq_true rfl | omega | (simp only [lnS] <;> omega) | (simp <;> omega))) (by first | (simp only [packA_t, packA_f, iE, bE, setAt, cellsA, Value.cells, map_vc, map_vn, Nat.reduceAdd, qS] <;> rfl) | rfl)) trivial rfl ?_
              refine al_ro' (ro_call (evL_cons up_h (evL_cons ev_c (evL_cons ev_c evL_nil))) rfl (bWithin_ok _ _ _) k24_hcf10) trivial rfl ?_
              refine al_ro' (ro_not up_h) trivial rfl ?_
              refine al_end (fun e_10 he_10 => ?_)
              have s1_10 := ef 1 he_10 (u2 rfl (u4 rfl s1_8))
              have s5_10 := ef 5 he_10 (u2 rfl (u4 rfl s5_8))
              have s24_10 := ef 24 he_10 up_h
              clear he_10 s16_8 s1_8 s5_8
              refine then_n ?_
              refine aw_case s24_10 (fun hq_11 => ?_) (fun hq_11 => ?_)
              · (first | replace hq_11 := bnt hq_11 | replace hq_11 := bnf hq_11 | replace hq_11 := bt hq_11 | replace hq_11 := bf hq_11 | replace hq_11 := bt' hq_11 | replace hq_11 := bf' hq_11 | skip)
                first
                | (cases hq_11; done) | (exfalso; omega)
                | (
                   refine aw_seq ?_
                   refine aw_text (by kernel_rfl) ?_
                   refine al_ro' (ro_assign ev_c) trivial rfl ?_
                   refine al_end (fun e_12 he_12 => ?_)
                   have s4_12 := ef 4 he_12 up_h
                   clear he_12 s1_10 s24_10 s5_10
                   refine then_n ?_
                   refine aw_ret ?_
                   refine block_r ?_
                   refine then_r ?_
                   refine then_r ?_
                   refine block_r ?_
                   refine then_r ?_
                   refine ret1 (.inr rfl) (by kernel_rfl) (resV_tmp s4_12) (.ro _ rfl) ?_
                   clear s4_12 mo0_7 ml_7
                   (refine avi ?_; unfold sqsE; rw [if_pos (by omega), if_neg (all_not (j := i.toNat) (by omega) (by simp_all))]))
              · (first | replace hq_11 := bnt hq_11 | replace hq_11 := bnf hq_11 | replace hq_11 := bt hq_11 | replace hq_11 := bf hq_11 | replace hq_11 := bt' hq_11 | replace hq_11 := bf' hq_11 | skip)
                first
                | (cases hq_11; done) | (exfalso; omega)
                | (
                   refine aw_skip ?_
                   refine block_n ?_
                   refine then_n ?_
                   refine aw_text (by kernel_rfl) ?_
                   refine al_ro' (ro_move s5_10) trivial rfl ?_
                   first | (refine al_ro' (ro_add' up_h ev_c ?_) trivial rfl ?_; · (unfold In64; omega)) | refine al_ro' (ro_add up_h ev_c) trivial rfl ?_
                   refine al_ro' (ro_assign up_h) trivial rfl ?_
                   refine al_end (fun e_13 he_13 => ?_)
                   have s1_13 := ef 1 he_13 (up_m rfl (u2 rfl s1_10))
                   have s5_13 := ef 5 he_13 up_h
                   clear he_13 s1_10 s24_10 s5_10
                   refine then_n ?_
                   refine ⟨_, ⟨s5_13, (s1_13.trans s1_6.symm), (mo0_7.trans mo0_1.symm), ml_7, ?_⟩, ?_⟩
                   · (refine ⟨by omega, by omega, fun j hj => ?_⟩; by_cases hji : j < i.toNat; (exact p3 j hji); (rw [show j = i.toNat by omega]; assumption))
                   · ((try dsimp only); omega)))
         · (first | replace hq_9 := bnt hq_9 | replace hq_9 := bnf hq_9 | replace hq_9 := bt hq_9 | replace hq_9 := bf hq_9 | replace hq_9 := bt' hq_9 | replace hq_9 := bf' hq_9 | skip)
           first
           | (cases hq_9; done) | (exfalso; omega)
           | (
              refine aw_exit ?_
              refine then_x ?_
              refine then_x ?_
              refine block_hit ?_
              refine then_n ?_
              refine aw_seq ?_
              refine aw_text (by kernel_rfl) ?_
              refine al_ro' (ro_assign ev_c) trivial rfl ?_
              refine al_end (fun e_14 he_14 => ?_)
              have s4_14 := ef 4 he_14 up_h
              clear he_14 s16_8 s1_8 s5_8
              refine then_n ?_
              refine aw_ret ?_
              refine ret1 (.inr rfl) (by kernel_rfl) (resV_tmp s4_14) (.ro _ rfl) ?_
              clear s4_14 mo0_7 ml_7
              (refine avi ?_; unfold sqsE; rw [if_pos (by omega), if_pos (all_pre (n := i.toNat) p3 (by omega))])))
end
end Go.Proofs.Ytgiiedpambimoaa
