/- Texts of this claim, one behind the other: lemmas for the statement. -/
import Derived.Test.YtfmjmngkgmlghaaDoorT0
import Derived.Test.YtfmjmngkgmlghaaDoorK1
import Derived.Test.YtfmjmngkgmlghaaDoorA16
/- Contracts of the lowest functions of chapter 3. No conditions on a program. -/
namespace Go.Proofs.YtfmjmngkgmlghaaDoor
open Go Go.RowKit Go.Proofs
set_option linter.unusedSimpArgs false
set_option linter.unusedVariables false
theorem h1_sl109 : SlIs Tryd.prog 109 26 1 8 (.int .i64 0) := ⟨by kernel_rfl, by kernel_rfl, by kernel_rfl⟩
theorem h1_ty26 : TyIs Tryd.prog 26 false 1 := ⟨by kernel_rfl, by kernel_rfl⟩

abbrev V2 := Int × Int
def tE (v : V2) : List AV := [.v (.int .i64 v.1), .v (.int .i64 v.2)]
abbrev nA (n : Int) : AV := .v (.int .i64 n)
abbrev oA (b : Bool) : AV := .v (.bool b)
abbrev tA (v : V2) : AV := .agg [nA v.1, nA v.2]
set_option maxRecDepth 100000 in
set_option maxHeartbeats 1000000 in
theorem sWithin_ok (n lo hi : Int) : FnOk Tryd.prog 73 [nA n, nA lo, nA hi] (fun q => q = oA (withinB n lo hi)) := by
  refine fnOk_of (fn := Tryd.f73) 15 (by kernel_rfl) rfl (by kernel_rfl) (Nat.le_of_ble_eq_true rfl) ?_
  intro e_0 m_0 hA hm_0
  have s0_0 : evA e_0 (.tmp 0) = _ := hA 0 _ rfl
  have s1_0 : evA e_0 (.tmp 1) = _ := hA 1 _ rfl
  have s2_0 : evA e_0 (.tmp 2) = _ := hA 2 _ rfl
  have ml_0 : m_0.length = 0 := by rw [hm_0]; rfl
  clear hA hm_0
  refine aw_seq <| at_ <| ar (ro_assign ev_c) rfl <| ae3 (up_m rfl s0_0) (up_m rfl s1_0) (up_m rfl s2_0) ?_; clear s0_0 s1_0 s2_0; intro e_1 s0_1 s1_1 s2_1
  refine then_n <| aw_seq <| at_ <| ar (ro_move s1_1) rfl <| ar (ro_move (up_m rfl s0_1)) rfl <| ar (ro_leq (up_m rfl up_h) up_h) rfl <| ar (ro_move up_h) rfl <| al_case up_h (fun hb_2 hq_2 => ?_) (fun hb_2 hq_2 => ?_)
  ·replace hq_2 := bt hq_2
   refine al_ro' (ro_move (u4 rfl s0_1)) ⟨_, rfl, hb_2⟩ rfl ?_
   refine al_ro' (ro_move (up_m rfl (u4 rfl s2_1))) ⟨_, rfl, (up_m rfl hb_2)⟩ rfl ?_
   refine al_ro' (ro_leq (up_m rfl up_h) up_h) ⟨_, rfl, (u2 rfl hb_2)⟩ rfl ?_
   refine ar (ro_pickT (up_m rfl (u2 rfl hb_2)) up_h) rfl <| ar (ro_assign up_h) rfl <| ae1 up_h ?_; clear hb_2 s0_1 s1_1 s2_1; intro e_3 s6_3
   refine then_n <| aw_ret <| ret1 (.inr rfl) (by kernel_rfl) (resV_tmp s6_3) (.ro _ rfl) ?_
   clear s6_3  ml_0
   (first | rfl | (simp [withinB, *]; done) | (simp [withinB, *] <;> omega) | (simp_all [withinB]; done) | (simp_all [withinB] <;> omega))
  replace hq_2 := bf hq_2
  refine al_skip' ⟨_, rfl, .inl hb_2⟩ rfl ?_
  refine al_skip' ⟨_, rfl, .inl (up_m rfl hb_2)⟩ rfl ?_
  refine al_skip' ⟨_, rfl, .inl (u2 rfl hb_2)⟩ rfl ?_
  refine ar (ro_pickF (up_m rfl (u2 rfl hb_2)) ev_c) rfl <| ar (ro_assign up_h) rfl <| ae1 up_h ?_; clear hb_2 s0_1 s1_1 s2_1; intro e_4 s6_4
  refine then_n <| aw_ret <| ret1 (.inr rfl) (by kernel_rfl) (resV_tmp s6_4) (.ro _ rfl) ?_
  clear s6_4  ml_0
  (first | rfl | (simp [withinB, *]; done) | (simp [withinB, *] <;> omega) | (simp_all [withinB]; done) | (simp_all [withinB] <;> omega))
def smallB (n m : Int) : Bool := withinB n (-m) m
set_option maxRecDepth 100000 in
set_option maxHeartbeats 1000000 in
theorem sSmall_ok (n m : Int) (hm : -9000000000000000000 ≤ m ∧ m ≤ 9000000000000000000) : FnOk Tryd.prog 43 [nA n, nA m] (fun q => q = oA (smallB n m)) := by
  refine fnOk_of (fn := Tryd.f43) 10 (by kernel_rfl) rfl (by kernel_rfl) (Nat.le_of_ble_eq_true rfl) ?_
  intro e_0 m_0 hA hm_0
  have s0_0 : evA e_0 (.tmp 0) = _ := hA 0 _ rfl
  have s1_0 : evA e_0 (.tmp 1) = _ := hA 1 _ rfl
  have ml_0 : m_0.length = 0 := by rw [hm_0]; rfl
  clear hA hm_0
  refine aw_seq <| at_ <| ar (ro_assign ev_c) rfl <| ae2 (up_m rfl s0_0) (up_m rfl s1_0) ?_; clear s0_0 s1_0; intro e_1 s0_1 s1_1
  refine then_n <| aw_seq <| at_ <| ar (ro_move s0_1) rfl <| ar (ro_move (up_m rfl s1_1)) rfl ?_
  (refine ar (ro_neg' up_h ?_) rfl ?_; · (unfold In64; omega))
  refine ar (ro_move (up_m rfl (u2 rfl s1_1))) rfl <| ar (ro_call (evL_cons (up_m rfl (u2 rfl up_h)) (evL_cons (up_m rfl up_h) (evL_cons up_h evL_nil))) rfl (sWithin_ok _ _ _) qhcf73) rfl <| ar (ro_assign up_h) rfl <| ae1 up_h ?_; clear s0_1 s1_1; intro e_2 s4_2
  refine then_n <| aw_ret <| ret1 (.inr rfl) (by kernel_rfl) (resV_tmp s4_2) (.ro _ rfl) ?_
  clear s4_2  ml_0
  rfl
def sizeW (n : Int) : Int := max n (-n)
set_option maxRecDepth 100000 in
set_option maxHeartbeats 1000000 in
theorem bSize_ok (n : Int) (hm : -9000000000000000000 ≤ n ∧ n ≤ 9000000000000000000) : FnOk Tryd.prog 56 [nA n] (fun q => q = nA (sizeW n)) := by
  refine fnOk_of (fn := Tryd.f56) 7 (by kernel_rfl) rfl (by kernel_rfl) (Nat.le_of_ble_eq_true rfl) ?_
  intro e_0 m_0 hA hm_0
  have s0_0 : evA e_0 (.tmp 0) = _ := hA 0 _ rfl
  have ml_0 : m_0.length = 0 := by rw [hm_0]; rfl
  clear hA hm_0
  refine aw_seq <| at_ <| ar (ro_assign ev_c) rfl <| ae1 (up_m rfl s0_0) ?_; clear s0_0; intro e_1 s0_1
  refine then_n <| aw_seq <| at_ <| ar (ro_move s0_1) rfl <| ar (ro_move (up_m rfl s0_1)) rfl ?_
  (refine ar (ro_neg' up_h ?_) rfl ?_; · (unfold In64; omega))
  refine ar (ro_max (u2 rfl up_h) up_h) rfl <| ar (ro_assign up_h) rfl <| ae1 up_h ?_; clear s0_1; intro e_2 s2_2
  refine then_n <| aw_ret <| ret1 (.inr rfl) (by kernel_rfl) (resV_tmp s2_2) (.ro _ rfl) ?_
  clear s2_2  ml_0
  rfl
set_option maxRecDepth 100000 in
set_option maxHeartbeats 1000000 in
theorem sUnless_ok (ok : Bool) (e : Int) : FnOk Tryd.prog 28 [oA ok, nA e] (fun q => q = nA (unlessE ok e)) := by
  refine fnOk_of (fn := Tryd.f28) 7 (by kernel_rfl) rfl (by kernel_rfl) (Nat.le_of_ble_eq_true rfl) ?_
  intro e_0 m_0 hA hm_0
  have s0_0 : evA e_0 (.tmp 0) = _ := hA 0 _ rfl
  have s1_0 : evA e_0 (.tmp 1) = _ := hA 1 _ rfl
  have ml_0 : m_0.length = 0 := by rw [hm_0]; rfl
  clear hA hm_0
  refine aw_seq <| at_ <| ar (ro_assign ev_c) rfl <| ae2 (up_m rfl s0_0) (up_m rfl s1_0) ?_; clear s0_0 s1_0; intro e_1 s0_1 s1_1
  refine then_n <| aw_seq <| aw_seq <| at_ <| ar (ro_move s0_1) rfl <| ae2 (up_m rfl s1_1) up_h ?_; clear s0_1 s1_1; intro e_2 s1_2 s5_2
  refine then_n <| aw_case s5_2 (fun hq_3 => ?_) (fun hq_3 => ?_)
  ·skip
   refine aw_seq <| at_ <| ar (ro_assign ev_c) rfl <| ae1 up_h ?_; clear s1_2 s5_2; intro e_4 s4_4
   refine then_n <| aw_ret <| then_r <| ret1 (.inr rfl) (by kernel_rfl) (resV_tmp s4_4) (.ro _ rfl) ?_
   clear s4_4  ml_0
   (first | rfl | (simp [unlessE, *]; done) | (simp [unlessE, *] <;> omega) | (simp_all [unlessE]; done) | (simp_all [unlessE] <;> omega))
  refine aw_skip <| then_n <| aw_seq <| at_ <| ar (ro_move s1_2) rfl <| ar (ro_assign up_h) rfl <| ae1 up_h ?_; clear s1_2 s5_2; intro e_5 s4_5
  refine then_n <| aw_ret <| ret1 (.inr rfl) (by kernel_rfl) (resV_tmp s4_5) (.ro _ rfl) ?_
  clear s4_5  ml_0
  (first | rfl | (simp [unlessE, *]; done) | (simp [unlessE, *] <;> omega) | (simp_all [unlessE]; done) | (simp_all [unlessE] <;> omega))
set_option maxRecDepth 100000 in
set_option maxHeartbeats 1000000 in
theorem sFirst_ok (l : List Int) (hl : l.length ≤ 1000) : FnOk Tryd.prog 27 [.row 1 (l.map iE)] (fun q => q = nA (firstE l)) := by
  refine fnOk_of (fn := Tryd.f27) 15 (by kernel_rfl) rfl (by kernel_rfl) (Nat.le_of_ble_eq_true rfl) ?_
  intro e_0 m_0 hA hm_0
  have s0_0 : evA e_0 (.tmp 0) = _ := hA 0 _ rfl
  have ml_0 : m_0.length = 0 := by rw [hm_0]; rfl
  clear hA hm_0
  refine aw_seq <| at_ <| ar (ro_assign ev_c) rfl <| ae1 (up_m rfl s0_0) ?_; clear s0_0; intro e_1 s0_1
  refine then_n <| aw_seq <| aw_seq <| at_ <| ar (ro_move s0_1) rfl <| ar (ro_eq (ro_len_row up_h rfl h1_sl109.1) (by simp only [lnS] <;> rfl)) rfl ?_
  refine ar (ro_move ev_c) rfl <| ae3 (u2 rfl up_h) (up_m rfl up_h) up_h ?_; clear s0_1; intro e_2 s5_2 s6_2 s7_2
  refine then_n <| aw_block <| aw_loop (S := Int) (fun i e mem => (evA e (.tmp 7) = .v (.int .i64 i)) ∧ (evA e (.tmp 5) = evA e_2 (.tmp 5)) ∧ (evA e (.tmp 6) = evA e_2 (.tmp 6)) ∧ (mem.length = 0) ∧ ((0 ≤ i ∧ i ≤ l.length ∧ firstE (l.drop i.toNat) = firstE l))) (fun i => (l.length - i).toNat) _ ⟨s7_2, rfl, rfl, ml_0, ?_⟩ ?_
  · exact ⟨by omega, by omega, rfl⟩
  · rintro i e_3 m_3 ⟨s7_3, k5_3, k6_3, ml_3, hinv⟩
    have s5_3 := k5_3.trans s5_2
    have s6_3 := k6_3.trans s6_2
    refine aw_seq <| at_ <| ar (ro_lss s7_3 s6_3) rfl <| ae4 (up_m rfl s5_3) (up_m rfl s6_3) (up_m rfl s7_3) up_h ?_; clear s5_3 s6_3 s7_3; intro e_4 s5_4 s6_4 s7_4 s8_4
    refine then_n <| aw_seq <| aw_case s8_4 (fun hq_5 => ?_) (fun hq_5 => ?_)
    ·replace hq_5 := bt hq_5
     refine aw_skip <| then_n <| aw_seq <| aw_block <| aw_seq <| at_ <| ar (ro_eq (ro_ix h1_sl109 s5_4 s7_4 (by omega) (by first | (refine idx_map ?_; first | omega | (simp only [lnS]; omega)) | (refine idx_mapI ?_; first | omega | (simp only [lnS]; omega)) | (refine idx_mapN ?_; first | omega | (simp only [lnS]; omega)) | rfl)) (by simp only [pS, Value.cells, Nat.reduceAdd] <;> rfl)) rfl ?_
     refine ar (ro_eq (ro_ld_ref h1_ty26 rfl up_h (nle rfl)) (by simp only [pS, Value.cells, Nat.reduceAdd] <;> rfl)) rfl ?_
     refine ar (ro_assign up_h) rfl <| ae4 up_h (up_m rfl (u2 rfl s5_4)) (up_m rfl (u2 rfl s6_4)) (up_m rfl (u2 rfl s7_4)) ?_; clear s5_4 s6_4 s7_4 s8_4; intro e_6 s4_6 s5_6 s6_6 s7_6
     refine then_n <| aw_seq <| at_ <| ar (ro_move s4_6) rfl <| ar (ro_neq up_h ev_c) rfl <| ae5 (u2 rfl s4_6) (u2 rfl s5_6) (u2 rfl s6_6) (u2 rfl s7_6) up_h ?_; clear s4_6 s5_6 s6_6 s7_6; intro e_7 s4_7 s5_7 s6_7 s7_7 s12_7
     refine then_n <| aw_case s12_7 (fun hq_8 => ?_) (fun hq_8 => ?_)
     ·replace hq_8 := bnt hq_8
      refine aw_seq <| at_ <| ar (ro_move s4_7) rfl <| ar (ro_assign up_h) rfl <| ae1 up_h ?_; clear s12_7 s4_7 s5_7 s6_7 s7_7; intro e_9 s2_9
      refine then_n <| aw_ret <| block_r <| then_r <| then_r <| block_r <| then_r <| ret1 (.inr rfl) (by kernel_rfl) (resV_tmp s2_9) (.ro _ rfl) ?_
      clear s2_9  ml_3
      obtain ⟨h1, h2, h3⟩ := hinv; rw [← h3, firstE_drop (i := i.toNat) (by omega), if_neg (by assumption)]; rfl
     replace hq_8 := bnf hq_8
     refine aw_skip <| block_n <| then_n <| at_ ?_
     (refine ar (ro_add' s7_7 ev_c ?_) rfl ?_; · (unfold In64; omega))
     refine ar (ro_move up_h) rfl <| ae3 (u2 rfl s5_7) (u2 rfl s6_7) up_h ?_; clear s12_7 s4_7 s5_7 s6_7 s7_7; intro e_10 s5_10 s6_10 s7_10
     refine then_n <| ⟨_, ⟨s7_10, (s5_10.trans s5_2.symm), (s6_10.trans s6_2.symm), ml_3, ?_⟩, ?_⟩
     · (obtain ⟨h1, h2, h3⟩ := hinv; refine ⟨by omega, by omega, ?_⟩; rw [← h3, firstE_drop (i := i.toNat) (by omega), if_pos (by assumption)]; congr 2; omega)
     · ((try dsimp only); omega)
    replace hq_5 := bf hq_5
    refine aw_exit <| then_x <| then_x <| block_hit <| then_n <| aw_seq <| at_ <| ar (ro_assign ev_c) rfl <| ae1 up_h ?_; clear s5_4 s6_4 s7_4 s8_4; intro e_11 s2_11
    refine then_n <| aw_ret <| ret1 (.inr rfl) (by kernel_rfl) (resV_tmp s2_11) (.ro _ rfl) ?_
    clear s2_11  ml_3
    obtain ⟨h1, h2, h3⟩ := hinv; rw [← h3, List.drop_eq_nil_of_le (by omega)]; rfl
end Go.Proofs.YtfmjmngkgmlghaaDoor

/- Contracts of chapter 3: vectors. No conditions on a program. -/
namespace Go.Proofs.YtfmjmngkgmlghaaDoor
open Go Go.RowKit Go.Proofs
set_option linter.unusedSimpArgs false
set_option linter.unusedVariables false
theorem h2_az93 : (Tryd.prog.info? 93).bind (·.zero) = some (.agg #[.int .i64 0, .int .i64 0]) := by kernel_rfl
theorem h2_bz93 : (Tryd.prog.info? 93).bind (·.zero) = some (.agg #[.int .i64 0, .int .i64 0]) := by kernel_rfl
theorem h2_bu93 : Tryd.prog.underlying 93 = some (.struct (fsOf Tryd.prog 93)) := by kernel_rfl
theorem h2_bp93 : ∀ w, ((fsOf Tryd.prog 93).mapM fun f => Prod.mk f.offset <$> sizeOf f.type : Sem (Array (Nat × Nat))).run Tryd.prog w = .ok (#[(0, 1), (1, 1)]) w := fun _ => by kernel_rfl
theorem h2_fl93_0 : FldIs Tryd.prog 93 0 0 false 1 := by unfold FldIs; kernel_rfl
theorem h2_hcf96 : ∀ args w, (callFunc 96 args).run Tryd.prog w = .ok (.enter 96 args) w := fun _ _ => by kernel_rfl
theorem h2_hcf97 : ∀ args w, (callFunc 97 args).run Tryd.prog w = .ok (.enter 97 args) w := fun _ _ => by kernel_rfl
theorem h2_sz93 : (Tryd.prog.info? 93).map (·.size) = some 2 := by kernel_rfl
theorem h2_ty23 : TyIs Tryd.prog 23 true 2 := ⟨by kernel_rfl, by kernel_rfl⟩
theorem h2_ty3 : TyIs Tryd.prog 3 false 1 := ⟨by kernel_rfl, by kernel_rfl⟩
theorem h2_ty93 : TyIs Tryd.prog 93 true 2 := ⟨by kernel_rfl, by kernel_rfl⟩

theorem mulBd {a b A B : Int} (ha : -A ≤ a ∧ a ≤ A) (hb : -B ≤ b ∧ b ≤ B) : -(A * B) ≤ a * b ∧ a * b ≤ A * B := by
  have h1 : (a * b).natAbs ≤ A.natAbs * B.natAbs := by
    rw [Int.natAbs_mul]; exact Nat.mul_le_mul (by omega) (by omega)
  have h2 : ((A.natAbs * B.natAbs : Nat) : Int) = A * B := by
    rw [Int.natCast_mul, Int.natAbs_of_nonneg (by omega), Int.natAbs_of_nonneg (by omega)]
  omega
/-- Parts of at most a size. -/
def Bd (M : Int) (v : V2) : Prop := (-M ≤ v.1 ∧ v.1 ≤ M) ∧ (-M ≤ v.2 ∧ v.2 ≤ M)
def conjV (v : V2) : V2 := (v.1 - v.2, -v.2)
def mulV (u v : V2) : V2 := (u.1 * v.1 - u.2 * v.2, u.1 * v.2 + u.2 * v.1 - u.2 * v.2)
def rotV (v : V2) : V2 := (v.1 - v.2, v.1)
def turnN (v : V2) : Nat → V2
  | 0 => v
  | n + 1 => rotV (turnN v n)
def turnV (v : V2) (s : Int) : V2 := turnN v (s % 6).toNat
theorem tmod6 (s : Int) : (s.tmod 6 + 6).tmod 6 = s % 6 := by
  have h1 : s.tmod 6 = if 0 ≤ s ∨ s % 6 = 0 then s % 6 else s % 6 - 6 := by
    rw [Int.tmod_eq_emod]; simp only [show (6 : Int) ∣ s ↔ s % 6 = 0 from Int.dvd_iff_emod_eq_zero]; split <;> simp
  have h2 : 0 ≤ s.tmod 6 + 6 := by split at h1 <;> omega
  rw [Int.tmod_eq_emod_of_nonneg h2]
  split at h1 <;> omega
theorem turn_bd {M : Int} {v : V2} (h : Bd M v) (n : Nat) (hn : n < 6) : Bd (2 * M) (turnN v n) := by
  obtain ⟨⟨a, b⟩, c, d⟩ := h
  match n, hn with
  | 0, _ => refine ⟨⟨?_, ?_⟩, ?_, ?_⟩ <;> simp only [turnN] <;> omega
  | 1, _ => refine ⟨⟨?_, ?_⟩, ?_, ?_⟩ <;> simp only [turnN, rotV] <;> omega
  | 2, _ => refine ⟨⟨?_, ?_⟩, ?_, ?_⟩ <;> simp only [turnN, rotV] <;> omega
  | 3, _ => refine ⟨⟨?_, ?_⟩, ?_, ?_⟩ <;> simp only [turnN, rotV] <;> omega
  | 4, _ => refine ⟨⟨?_, ?_⟩, ?_, ?_⟩ <;> simp only [turnN, rotV] <;> omega
  | 5, _ => refine ⟨⟨?_, ?_⟩, ?_, ?_⟩ <;> simp only [turnN, rotV] <;> omega
section
variable (u v : V2) (hu : Bd 1000000000 u) (hv : Bd 1000000000 v)
include hu hv
set_option maxRecDepth 100000 in
set_option maxHeartbeats 1000000 in
theorem times_ok : FnOk Tryd.prog 96 [tA u, tA v] (fun q => q = tA (mulV u v)) := by
  have m1 := mulBd hu.1 hv.1
  have m2 := mulBd hu.1 hv.2
  have m3 := mulBd hu.2 hv.1
  have m4 := mulBd hu.2 hv.2
  refine fnOk_of (fn := Tryd.f96) 32 (by kernel_rfl) rfl (by kernel_rfl) (Nat.le_of_ble_eq_true rfl) ?_
  intro e_0 m_0 hA hm_0
  have s0_0 : evA e_0 (.tmp 0) = _ := hA 0 _ rfl
  have s1_0 : evA e_0 (.tmp 1) = _ := hA 1 _ rfl
  have ml_0 : m_0.length = 0 := by rw [hm_0]; rfl
  clear hA hm_0
  refine aw_seq <| at_ <| al_stm (st_box s0_0 rfl ml_0) trivial rfl (fun m_1 hm_1 => ?_)
  have mo0_1 := m_push hm_1 ml_0
  have ml_1 := m_push_l hm_1 ml_0
  have ml_1 : _ = 1 := ml_1
  clear hm_1
  refine al_stm (st_box (up_m rfl s1_0) rfl ml_1) trivial rfl (fun m_2 hm_2 => ?_)
  have mo1_2 := m_push hm_2 ml_1
  have mo0_2 := m_push_o hm_2 mo0_1
  have ml_2 := m_push_l hm_2 ml_1
  have ml_2 : _ = 2 := ml_2
  clear hm_2 mo0_1
  refine al_stm (st_alloc h2_az93 rfl ml_2) trivial rfl (fun m_3 hm_3 => ?_)
  have mo2_3 := m_push hm_3 ml_2
  simp only [pS, Value.cells, Nat.reduceAdd] at mo2_3
  have mo1_3 := m_push_o hm_3 mo1_2
  have mo0_3 := m_push_o hm_3 mo0_2
  have ml_3 := m_push_l hm_3 ml_2
  have ml_3 : _ = 3 := ml_3
  clear hm_3 mo1_2 mo0_2
  refine ae3 (u2 rfl up_h) (up_m rfl up_h) up_h ?_; clear s0_0 s1_0; intro e_4 s2_4 s3_4 s4_4
  refine then_n <| aw_seq <| at_ <| ar (ro_fld_ptr qfl93_1 rfl s2_4) rfl <| ar (ro_eq (ro_ld_ptr h2_ty3 rfl mo0_3 up_h (nle rfl)) (by simp only [pS, Value.cells, Nat.reduceAdd] <;> rfl)) rfl ?_
  refine ar (ro_fld_ptr qfl93_1 rfl (u2 rfl s3_4)) rfl <| ar (ro_eq (ro_ld_ptr h2_ty3 rfl mo1_3 up_h (nle rfl)) (by simp only [pS, Value.cells, Nat.reduceAdd] <;> rfl)) rfl ?_
  (refine ar (ro_mul' (u2 rfl up_h) up_h ?_) rfl ?_; · (unfold In64; omega))
  refine ar (ro_assign up_h) rfl <| ae4 (u2 rfl (u4 rfl s2_4)) (u2 rfl (u4 rfl s3_4)) (u2 rfl (u4 rfl s4_4)) up_h ?_; clear s2_4 s3_4 s4_4; intro e_5 s2_5 s3_5 s4_5 s5_5
  refine then_n <| aw_seq <| at_ <| ar (ro_fld_ptr h2_fl93_0 rfl s2_5) rfl <| ar (ro_eq (ro_ld_ptr h2_ty3 rfl mo0_3 up_h (nle rfl)) (by simp only [pS, Value.cells, Nat.reduceAdd] <;> rfl)) rfl ?_
  refine ar (ro_fld_ptr h2_fl93_0 rfl (u2 rfl s3_5)) rfl <| ar (ro_eq (ro_ld_ptr h2_ty3 rfl mo1_3 up_h (nle rfl)) (by simp only [pS, Value.cells, Nat.reduceAdd] <;> rfl)) rfl ?_
  (refine ar (ro_mul' (u2 rfl up_h) up_h ?_) rfl ?_; · (unfold In64; omega))
  refine ar (ro_move (up_m rfl (u4 rfl s5_5))) rfl ?_
  (refine ar (ro_sub' (up_m rfl up_h) up_h ?_) rfl ?_; · (unfold In64; omega))
  refine ar (ro_fld_ptr h2_fl93_0 rfl (up_m rfl (u2 rfl (u4 rfl s2_5)))) rfl <| ar (ro_eq (ro_ld_ptr h2_ty3 rfl mo0_3 up_h (nle rfl)) (by simp only [pS, Value.cells, Nat.reduceAdd] <;> rfl)) rfl ?_
  refine ar (ro_fld_ptr qfl93_1 rfl (up_m rfl (u8 rfl s3_5))) rfl <| ar (ro_eq (ro_ld_ptr h2_ty3 rfl mo1_3 up_h (nle rfl)) (by simp only [pS, Value.cells, Nat.reduceAdd] <;> rfl)) rfl ?_
  (refine ar (ro_mul' (u2 rfl up_h) up_h ?_) rfl ?_; · (unfold In64; omega))
  refine ar (ro_fld_ptr qfl93_1 rfl (u4 rfl (u8 rfl s2_5))) rfl <| ar (ro_eq (ro_ld_ptr h2_ty3 rfl mo0_3 up_h (nle rfl)) (by simp only [pS, Value.cells, Nat.reduceAdd] <;> rfl)) rfl ?_
  refine ar (ro_fld_ptr h2_fl93_0 rfl (u2 rfl (u4 rfl (u8 rfl s3_5)))) rfl <| ar (ro_eq (ro_ld_ptr h2_ty3 rfl mo1_3 up_h (nle rfl)) (by simp only [pS, Value.cells, Nat.reduceAdd] <;> rfl)) rfl ?_
  (refine ar (ro_mul' (u2 rfl up_h) up_h ?_) rfl ?_; · (unfold In64; omega))
  (refine ar (ro_add' (up_m rfl (u4 rfl up_h)) up_h ?_) rfl ?_; · (unfold In64; omega))
  refine ar (ro_move (u2 rfl (u16 rfl s5_5))) rfl ?_
  (refine ar (ro_sub' (up_m rfl up_h) up_h ?_) rfl ?_; · (unfold In64; omega))
  refine ar (ro_build (evP_cons (up_m rfl (u4 rfl (u8 rfl up_h))) (evP_cons up_h evP_nil)) h2_bz93 h2_bu93 h2_bp93 rfl) rfl ?_
  refine al_stm (st_store (up_m rfl (u4 rfl (u16 rfl s4_5))) up_h rfl rfl mo2_3 h2_sz93 rfl (nle rfl)) trivial rfl (fun m_6 hm_6 => ?_)
  have mo2_6 := m_set hm_6 mo2_3
  simp only [pS, Value.cells, Nat.reduceAdd] at mo2_6
  have mo1_6 := m_set_o hm_6 mo1_3 (by decide)
  have mo0_6 := m_set_o hm_6 mo0_3 (by decide)
  have ml_6 := m_set_l hm_6 ml_3
  clear hm_6 mo2_3 mo1_3 mo0_3
  refine ae1 (up_n (up_m rfl (u4 rfl (u16 rfl s4_5)))) ?_; clear s2_5 s3_5 s4_5 s5_5; intro e_7 s4_7
  refine then_n <| aw_ret <| ret1 (.inr rfl) (by kernel_rfl) (resV_cell s4_7 mo2_6 h2_ty93 (nle rfl) (by simp)) (vw_r (.ro _ rfl)) ?_
  clear s4_7 mo2_6 mo1_6 mo0_6 ml_6
  rfl
end
section
variable (v : V2) (hv : Bd 1000000000 v)
include hv
set_option maxRecDepth 100000 in
set_option maxHeartbeats 1000000 in
theorem conj_ok : FnOk Tryd.prog 97 [tA v] (fun q => q = tA (conjV v)) := by
  obtain ⟨⟨b1, b2⟩, b3, b4⟩ := hv
  refine fnOk_of (fn := Tryd.f97) 12 (by kernel_rfl) rfl (by kernel_rfl) (Nat.le_of_ble_eq_true rfl) ?_
  intro e_0 m_0 hA hm_0
  have s0_0 : evA e_0 (.tmp 0) = _ := hA 0 _ rfl
  have ml_0 : m_0.length = 0 := by rw [hm_0]; rfl
  clear hA hm_0
  refine aw_seq <| at_ <| al_stm (st_box s0_0 rfl ml_0) trivial rfl (fun m_1 hm_1 => ?_)
  have mo0_1 := m_push hm_1 ml_0
  have ml_1 := m_push_l hm_1 ml_0
  have ml_1 : _ = 1 := ml_1
  clear hm_1
  refine al_stm (st_alloc h2_az93 rfl ml_1) trivial rfl (fun m_2 hm_2 => ?_)
  have mo1_2 := m_push hm_2 ml_1
  simp only [pS, Value.cells, Nat.reduceAdd] at mo1_2
  have mo0_2 := m_push_o hm_2 mo0_1
  have ml_2 := m_push_l hm_2 ml_1
  have ml_2 : _ = 2 := ml_2
  clear hm_2 mo0_1
  refine ae2 (up_m rfl up_h) up_h ?_; clear s0_0; intro e_3 s1_3 s2_3
  refine then_n <| aw_seq <| at_ <| ar (ro_fld_ptr h2_fl93_0 rfl s1_3) rfl <| ar (ro_eq (ro_ld_ptr h2_ty3 rfl mo0_2 up_h (nle rfl)) (by simp only [pS, Value.cells, Nat.reduceAdd] <;> rfl)) rfl ?_
  refine ar (ro_fld_ptr qfl93_1 rfl (u2 rfl s1_3)) rfl <| ar (ro_eq (ro_ld_ptr h2_ty3 rfl mo0_2 up_h (nle rfl)) (by simp only [pS, Value.cells, Nat.reduceAdd] <;> rfl)) rfl ?_
  (refine ar (ro_sub' (u2 rfl up_h) up_h ?_) rfl ?_; · (unfold In64; omega))
  refine ar (ro_fld_ptr qfl93_1 rfl (up_m rfl (u4 rfl s1_3))) rfl <| ar (ro_eq (ro_ld_ptr h2_ty3 rfl mo0_2 up_h (nle rfl)) (by simp only [pS, Value.cells, Nat.reduceAdd] <;> rfl)) rfl ?_
  (refine ar (ro_neg' up_h ?_) rfl ?_; · (unfold In64; omega))
  refine ar (ro_build (evP_cons (up_m rfl (u2 rfl up_h)) (evP_cons up_h evP_nil)) h2_bz93 h2_bu93 h2_bp93 rfl) rfl ?_
  refine al_stm (st_store (up_m rfl (u8 rfl s2_3)) up_h rfl rfl mo1_2 h2_sz93 rfl (nle rfl)) trivial rfl (fun m_4 hm_4 => ?_)
  have mo1_4 := m_set hm_4 mo1_2
  simp only [pS, Value.cells, Nat.reduceAdd] at mo1_4
  have mo0_4 := m_set_o hm_4 mo0_2 (by decide)
  have ml_4 := m_set_l hm_4 ml_2
  clear hm_4 mo1_2 mo0_2
  refine ae1 (up_n (up_m rfl (u8 rfl s2_3))) ?_; clear s1_3 s2_3; intro e_5 s2_5
  refine then_n <| aw_ret <| ret1 (.inr rfl) (by kernel_rfl) (resV_cell s2_5 mo1_4 h2_ty93 (nle rfl) (by simp)) (vw_r (.ro _ rfl)) ?_
  clear s2_5 mo1_4 mo0_4 ml_4
  rfl
end
theorem conj_bd {M : Int} {v : V2} (h : Bd M v) : Bd (2 * M) (conjV v) := by
  obtain ⟨⟨a, b⟩, c, d⟩ := h
  refine ⟨⟨?_, ?_⟩, ?_, ?_⟩ <;> simp only [conjV] <;> omega
theorem Bd.mono {M K : Int} {v : V2} (h : Bd M v) (hk : M ≤ K) : Bd K v := by
  obtain ⟨⟨a, b⟩, c, d⟩ := h
  exact ⟨⟨by omega, by omega⟩, by omega, by omega⟩
def prodV (u v : V2) : V2 := mulV u (conjV v)
set_option maxRecDepth 100000 in
set_option maxHeartbeats 1000000 in
theorem product_ok (u v : V2) (hu : Bd 400000000 u) (hv : Bd 400000000 v) : FnOk Tryd.prog 76 [tA u, tA v] (fun q => q = tA (prodV u v)) := by
  refine fnOk_of (fn := Tryd.f76) 9 (by kernel_rfl) rfl (by kernel_rfl) (Nat.le_of_ble_eq_true rfl) ?_
  intro e_0 m_0 hA hm_0
  have s0_0 : evA e_0 (.tmp 0) = _ := hA 0 _ rfl
  have s1_0 : evA e_0 (.tmp 1) = _ := hA 1 _ rfl
  have ml_0 : m_0.length = 0 := by rw [hm_0]; rfl
  clear hA hm_0
  refine aw_seq <| at_ <| al_stm (st_box s0_0 rfl ml_0) trivial rfl (fun m_1 hm_1 => ?_)
  have mo0_1 := m_push hm_1 ml_0
  have ml_1 := m_push_l hm_1 ml_0
  have ml_1 : _ = 1 := ml_1
  clear hm_1
  refine al_stm (st_box (up_m rfl s1_0) rfl ml_1) trivial rfl (fun m_2 hm_2 => ?_)
  have mo1_2 := m_push hm_2 ml_1
  have mo0_2 := m_push_o hm_2 mo0_1
  have ml_2 := m_push_l hm_2 ml_1
  have ml_2 : _ = 2 := ml_2
  clear hm_2 mo0_1
  refine al_stm (st_alloc h2_az93 rfl ml_2) trivial rfl (fun m_3 hm_3 => ?_)
  have mo2_3 := m_push hm_3 ml_2
  simp only [pS, Value.cells, Nat.reduceAdd] at mo2_3
  have mo1_3 := m_push_o hm_3 mo1_2
  have mo0_3 := m_push_o hm_3 mo0_2
  have ml_3 := m_push_l hm_3 ml_2
  have ml_3 : _ = 3 := ml_3
  clear hm_3 mo1_2 mo0_2
  refine ae3 (u2 rfl up_h) (up_m rfl up_h) up_h ?_; clear s0_0 s1_0; intro e_4 s2_4 s3_4 s4_4
  refine then_n <| aw_seq <| aw_draw 4 (by kernel_rfl) (by kernel_rfl) (by kernel_rfl) (by kernel_rfl) ?_
  refine dr (ro_eq (ro_ld_ptr h2_ty23 rfl mo0_3 s2_4 (nle rfl)) (by simp only [pS, Value.cells, Nat.reduceAdd] <;> rfl)) rfl ?_
  refine dr (ro_eq (ro_ld_ptr h2_ty23 rfl mo1_3 (up_m rfl s3_4) (nle rfl)) (by simp only [pS, Value.cells, Nat.reduceAdd] <;> rfl)) rfl ?_
  refine dr (ro_call (evL_cons up_h evL_nil) rfl (conj_ok v (hv.mono (by decide))) h2_hcf97) rfl ?_
  refine dr (ro_call (evL_cons (u2 rfl up_h) (evL_cons up_h evL_nil)) rfl (times_ok u (conjV v) (hu.mono (by decide)) ((conj_bd hv).mono (by decide))) h2_hcf96) rfl ?_
  refine ds_nil <| al_stm (st_store (u4 rfl s4_4) up_h rfl rfl mo2_3 h2_sz93 rfl (nle rfl)) trivial rfl (fun m_5 hm_5 => ?_)
  have mo2_5 := m_set hm_5 mo2_3
  simp only [pS, Value.cells, Nat.reduceAdd] at mo2_5
  have mo1_5 := m_set_o hm_5 mo1_3 (by decide)
  have mo0_5 := m_set_o hm_5 mo0_3 (by decide)
  have ml_5 := m_set_l hm_5 ml_3
  clear hm_5 mo2_3 mo1_3 mo0_3
  refine ae1 (up_n (u4 rfl s4_4)) ?_; clear s2_4 s3_4 s4_4; intro e_6 s4_6
  refine then_n <| aw_ret <| ret1 (.inr rfl) (by kernel_rfl) (resV_cell s4_6 mo2_5 h2_ty93 (nle rfl) (by simp)) (vw_r (.ro _ rfl)) ?_
  clear s4_6 mo2_5 mo1_5 mo0_5 ml_5
  rfl
set_option maxRecDepth 100000 in
set_option maxHeartbeats 4000000 in
theorem turned_ok (v : V2) (z : Int) (hv : Bd 400000000 v) : FnOk Tryd.prog 44 [tA v, nA z] (fun q => q = tA (turnV v z)) := by
  have hm := tmod6 z
  have hm2 : -6 < z.tmod 6 ∧ z.tmod 6 < 6 := ⟨Int.lt_tmod_of_pos z (by decide), Int.tmod_lt_of_pos z (by decide)⟩
  refine fnOk_of (fn := Tryd.f44) 21 (by kernel_rfl) rfl (by kernel_rfl) (Nat.le_of_ble_eq_true rfl) ?_
  intro e_0 m_0 hA hm_0
  have s0_0 : evA e_0 (.tmp 0) = _ := hA 0 _ rfl
  have s1_0 : evA e_0 (.tmp 1) = _ := hA 1 _ rfl
  have ml_0 : m_0.length = 0 := by rw [hm_0]; rfl
  clear hA hm_0
  refine aw_seq <| at_ <| al_stm (st_box s0_0 rfl ml_0) trivial rfl (fun m_1 hm_1 => ?_)
  have mo0_1 := m_push hm_1 ml_0
  have ml_1 := m_push_l hm_1 ml_0
  have ml_1 : _ = 1 := ml_1
  clear hm_1
  refine al_stm (st_alloc h2_az93 rfl ml_1) trivial rfl (fun m_2 hm_2 => ?_)
  have mo1_2 := m_push hm_2 ml_1
  simp only [pS, Value.cells, Nat.reduceAdd] at mo1_2
  have mo0_2 := m_push_o hm_2 mo0_1
  have ml_2 := m_push_l hm_2 ml_1
  have ml_2 : _ = 2 := ml_2
  clear hm_2 mo0_1
  refine ae3 (u2 rfl s1_0) (up_m rfl up_h) up_h ?_; clear s0_0 s1_0; intro e_3 s1_3 s2_3 s4_3
  refine then_n <| aw_seq <| aw_seq <| at_ <| ar (ro_move s1_3) rfl <| ar (ro_rem up_h ev_c (by decide)) rfl ?_
  (refine ar (ro_add' up_h ev_c ?_) rfl ?_; · (unfold In64; omega))
  refine ar (ro_rem up_h ev_c (by decide)) rfl ?_
  refine ar (ro_move ev_c) rfl <| ae4 (up_m rfl (u4 rfl s2_3)) (up_m rfl (u4 rfl s4_3)) (up_m rfl up_h) up_h ?_; clear s1_3 s2_3 s4_3; intro e_4 s2_4 s4_4 s8_4 s9_4
  refine then_n <| aw_block <| aw_loop (S := (Int × V2)) (fun s e mem => match s with | ⟨i, x⟩ => (evA e (.tmp 9) = .v (.int .i64 i)) ∧ (evA e (.tmp 2) = evA e_4 (.tmp 2)) ∧ (evA e (.tmp 4) = evA e_4 (.tmp 4)) ∧ (evA e (.tmp 8) = evA e_4 (.tmp 8)) ∧ (mem[0]? = some (.box 93 [nA x.1, nA x.2])) ∧ (mem[1]? = m_2[1]?) ∧ (mem.length = 2) ∧ ((0 ≤ i ∧ i ≤ z % 6 ∧ x = turnN v i.toNat))) (fun s => match s with | ⟨i, x⟩ => (z % 6 - i).toNat) ⟨_, v⟩ ⟨s9_4, rfl, rfl, rfl, mo0_2, rfl, ml_2, ?_⟩ ?_
  · (exact ⟨by omega, by omega, rfl⟩)
  · rintro ⟨i, x⟩ e_5 m_5 ⟨s9_5, k2_5, k4_5, k8_5, mo0_5, mk1_5, ml_5, hinv⟩
    have s2_5 := k2_5.trans s2_4
    have s4_5 := k4_5.trans s4_4
    have s8_5 := k8_5.trans s8_4
    have mo1_5 := mk1_5.trans mo1_2
    (obtain ⟨p1, p2, p3⟩ := hinv; have hb := turn_bd hv i.toNat (by omega); rw [← p3] at hb; obtain ⟨⟨b1, b2⟩, b3, b4⟩ := hb)
    refine aw_seq <| at_ <| ar (ro_lss s9_5 s8_5) rfl <| ae5 (up_m rfl s2_5) (up_m rfl s4_5) (up_m rfl s8_5) (up_m rfl s9_5) up_h ?_; clear s2_5 s4_5 s8_5 s9_5; intro e_6 s2_6 s4_6 s8_6 s9_6 s10_6
    refine then_n <| aw_seq <| aw_case s10_6 (fun hq_7 => ?_) (fun hq_7 => ?_)
    ·replace hq_7 := bt hq_7
     refine aw_skip <| then_n <| aw_seq <| aw_block <| at_ <| ar (ro_fld_ptr h2_fl93_0 rfl s2_6) rfl <| ar (ro_eq (ro_ld_ptr h2_ty3 rfl mo0_5 up_h (nle rfl)) (by simp only [pS, Value.cells, Nat.reduceAdd] <;> rfl)) rfl ?_
     refine ar (ro_fld_ptr qfl93_1 rfl (u2 rfl s2_6)) rfl <| ar (ro_eq (ro_ld_ptr h2_ty3 rfl mo0_5 up_h (nle rfl)) (by simp only [pS, Value.cells, Nat.reduceAdd] <;> rfl)) rfl ?_
     (refine ar (ro_sub' (u2 rfl up_h) up_h ?_) rfl ?_; · (unfold In64; omega))
     refine ar (ro_fld_ptr h2_fl93_0 rfl (up_m rfl (u4 rfl s2_6))) rfl <| ar (ro_eq (ro_ld_ptr h2_ty3 rfl mo0_5 up_h (nle rfl)) (by simp only [pS, Value.cells, Nat.reduceAdd] <;> rfl)) rfl ?_
     refine ar (ro_build (evP_cons (u2 rfl up_h) (evP_cons up_h evP_nil)) h2_bz93 h2_bu93 h2_bp93 rfl) rfl ?_
     refine al_stm (st_store (u8 rfl s2_6) up_h rfl rfl mo0_5 h2_sz93 rfl (nle rfl)) trivial rfl (fun m_8 hm_8 => ?_)
     have mo0_8 := m_set hm_8 mo0_5
     simp only [pS, Value.cells, Nat.reduceAdd] at mo0_8
     have mo1_8 := m_set_o hm_8 mo1_5 (by decide)
     have ml_8 := m_set_l hm_8 ml_5
     clear hm_8 mo0_5 mo1_5
     refine ae4 (up_n (u8 rfl s2_6)) (up_n (u8 rfl s4_6)) (up_n (u8 rfl s8_6)) (up_n (u8 rfl s9_6)) ?_; clear s10_6 s2_6 s4_6 s8_6 s9_6; intro e_9 s2_9 s4_9 s8_9 s9_9
     refine block_n <| then_n <| at_ ?_
     (refine ar (ro_add' s9_9 ev_c ?_) rfl ?_; · (unfold In64; omega))
     refine ar (ro_move up_h) rfl <| ae4 (u2 rfl s2_9) (u2 rfl s4_9) (u2 rfl s8_9) up_h ?_; clear s2_9 s4_9 s8_9 s9_9; intro e_10 s2_10 s4_10 s8_10 s9_10
     refine then_n <| ⟨⟨_, rotV x⟩, ⟨s9_10, (s2_10.trans s2_4.symm), (s4_10.trans s4_4.symm), (s8_10.trans s8_4.symm), mo0_8, (mo1_8.trans mo1_2.symm), ml_8, ?_⟩, ?_⟩
     · (refine ⟨by omega, by omega, ?_⟩; rw [show (i + 1).toNat = i.toNat + 1 by omega, p3]; rfl)
     · ((try dsimp only); omega)
    replace hq_7 := bf hq_7
    refine aw_exit <| then_x <| then_x <| block_hit <| then_n <| aw_seq <| at_ <| ar (ro_eq (ro_ld_ptr h2_ty93 rfl mo0_5 s2_6 (nle rfl)) (by simp only [pS, Value.cells, Nat.reduceAdd] <;> rfl)) rfl ?_
    refine al_stm (st_store (up_m rfl s4_6) up_h rfl rfl mo1_5 h2_sz93 rfl (nle rfl)) trivial rfl (fun m_11 hm_11 => ?_)
    have mo1_11 := m_set hm_11 mo1_5
    simp only [pS, Value.cells, Nat.reduceAdd] at mo1_11
    have mo0_11 := m_set_o hm_11 mo0_5 (by decide)
    have ml_11 := m_set_l hm_11 ml_5
    clear hm_11 mo0_5 mo1_5
    refine ae1 (up_n (up_m rfl s4_6)) ?_; clear s10_6 s2_6 s4_6 s8_6 s9_6; intro e_12 s4_12
    refine then_n <| aw_ret <| ret1 (.inr rfl) (by kernel_rfl) (resV_cell s4_12 mo1_11 h2_ty93 (nle rfl) (by simp)) (vw_r (.ro _ rfl)) ?_
    clear s4_12 mo1_11 mo0_11 ml_11
    (rw [p3, show i = z % 6 by omega]; rfl)
end Go.Proofs.YtfmjmngkgmlghaaDoor

/- Contracts of chapter 3: errors of vectors and of phases. No conditions on a program. -/
namespace Go.Proofs.YtfmjmngkgmlghaaDoor
open Go Go.RowKit Go.Proofs
set_option linter.unusedSimpArgs false
set_option linter.unusedVariables false
theorem h3_hcf54 : ∀ args w, (callFunc 54 args).run Tryd.prog w = .ok (.enter 54 args) w := fun _ _ => by kernel_rfl
theorem h3_hcf55 : ∀ args w, (callFunc 55 args).run Tryd.prog w = .ok (.enter 55 args) w := fun _ _ => by kernel_rfl
theorem h3_hcf85 : ∀ args w, (callFunc 85 args).run Tryd.prog w = .ok (.enter 85 args) w := fun _ _ => by kernel_rfl
theorem h3_sl55 : SlIs Tryd.prog 55 23 2 16 (.agg #[.int .i64 0, .int .i64 0]) := ⟨by kernel_rfl, by kernel_rfl, by kernel_rfl⟩
theorem h3_ty23 : TyIs Tryd.prog 23 true 2 := ⟨by kernel_rfl, by kernel_rfl⟩
theorem h3_ty3 : TyIs Tryd.prog 3 false 1 := ⟨by kernel_rfl, by kernel_rfl⟩

/-- The first member of which something is so. -/
def idxB {α : Type} (g : α → Bool) (l : List α) : Int := match l.findIdx? g with
  | some i => i
  | none => -1
theorem idxB_hit {α : Type} [Inhabited α] {g : α → Bool} {l : List α} {i : Nat} (hi : i < l.length) (h : g (l.getD i default) = true) (hn : ∀ j : Nat, j < i → g (l.getD j default) = false) : idxB g l = i := by
  unfold idxB
  have : l.findIdx? g = some i := by
    rw [List.findIdx?_eq_some_iff_getElem]
    refine ⟨hi, by simpa [List.getD_eq_getElem?_getD, hi] using h, fun j hj => ?_⟩
    have := hn j hj
    simpa [List.getD_eq_getElem?_getD, Nat.lt_trans hj hi] using this
  rw [this]
theorem idxB_miss {α : Type} [Inhabited α] {g : α → Bool} {l : List α} (hn : ∀ j : Nat, j < l.length → g (l.getD j default) = false) : idxB g l = -1 := by
  unfold idxB
  have : l.findIdx? g = none := by
    rw [List.findIdx?_eq_none_iff]
    intro p hp
    obtain ⟨j, hj, rfl⟩ := List.getElem_of_mem hp
    have := hn j hj
    simpa [List.getD_eq_getElem?_getD, hj] using this
  rw [this]
theorem idxB_any {α : Type} (g : α → Bool) (l : List α) : (0 ≤ idxB g l) ↔ l.any g = true := by
  unfold idxB
  cases h : l.findIdx? g with
  | none =>
    rw [List.findIdx?_eq_none_iff] at h
    simp only [Int.reduceNeg, Int.reduceLE, false_iff, Bool.not_eq_true, List.any_eq_false]
    intro x hx; simp [h x hx]
  | some i =>
    obtain ⟨hi, h1, _⟩ := List.findIdx?_eq_some_iff_getElem.1 h
    simp only [Int.natCast_nonneg, List.any_eq_true, true_iff]
    exact ⟨_, List.getElem_mem hi, h1⟩
def badV (v : V2) : Bool := !(smallB v.1 100000) || !(smallB v.2 100000)
set_option maxRecDepth 100000 in
set_option maxHeartbeats 1000000 in
theorem right1_ok (v : V2) : FnOk Tryd.prog 55 [tA v] (fun q => q = oA (badV v)) := by
  refine fnOk_of (fn := Tryd.f55) 13 (by kernel_rfl) rfl (by kernel_rfl) (Nat.le_of_ble_eq_true rfl) ?_
  intro e_0 m_0 hA hm_0
  have s0_0 : evA e_0 (.tmp 0) = _ := hA 0 _ rfl
  have ml_0 : m_0.length = 0 := by rw [hm_0]; rfl
  clear hA hm_0
  refine aw_seq <| at_ <| al_stm (st_box s0_0 rfl ml_0) trivial rfl (fun m_1 hm_1 => ?_)
  have mo0_1 := m_push hm_1 ml_0
  have ml_1 := m_push_l hm_1 ml_0
  have ml_1 : _ = 1 := ml_1
  clear hm_1
  refine ar (ro_assign ev_c) rfl <| ae1 (up_m rfl up_h) ?_; clear s0_0; intro e_2 s1_2
  refine then_n <| aw_seq <| at_ <| ar (ro_fld_ptr qfl23_0 rfl s1_2) rfl <| ar (ro_eq (ro_ld_ptr h3_ty3 rfl mo0_1 up_h (nle rfl)) (by simp only [pS, Value.cells, Nat.reduceAdd] <;> rfl)) rfl ?_
  refine ar (ro_call (evL_cons up_h (evL_cons ev_c evL_nil)) rfl (sSmall_ok _ _ (by decide)) qhcf43) rfl ?_
  refine ar (ro_not up_h) rfl <| ar (ro_move up_h) rfl <| al_case up_h (fun hb_3 hq_3 => ?_) (fun hb_3 hq_3 => ?_)
  ·replace hq_3 := bt' hq_3
   refine al_skip' ⟨_, rfl, .inl hb_3⟩ rfl ?_
   refine al_skip' ⟨_, rfl, .inl (up_m rfl hb_3)⟩ rfl ?_
   refine al_skip' ⟨_, rfl, .inl (u2 rfl hb_3)⟩ rfl ?_
   refine al_skip' ⟨_, rfl, .inl (up_m rfl (u2 rfl hb_3))⟩ rfl ?_
   refine ar (ro_pickT (u4 rfl hb_3) ev_c) rfl <| ar (ro_assign up_h) rfl <| ae1 up_h ?_; clear hb_3 s1_2; intro e_4 s2_4
   refine then_n <| aw_ret <| ret1 (.inr rfl) (by kernel_rfl) (resV_tmp s2_4) (.ro _ rfl) ?_
   clear s2_4 mo0_1 ml_1
   (first | rfl | (simp [badV, *]; done) | (simp [badV, *] <;> omega) | (simp_all [badV]; done) | (simp_all [badV] <;> omega))
  replace hq_3 := bf' hq_3
  refine al_ro' (ro_fld_ptr qfl23_1 rfl (up_m rfl (u4 rfl s1_2))) ⟨_, rfl, hb_3⟩ rfl ?_
  refine al_ro' (ro_eq (ro_ld_ptr h3_ty3 rfl mo0_1 up_h (nle rfl)) (by simp only [pS, Value.cells, Nat.reduceAdd] <;> rfl)) ⟨_, rfl, (up_m rfl hb_3)⟩ rfl ?_
  refine al_ro' (ro_call (evL_cons up_h (evL_cons ev_c evL_nil)) rfl (sSmall_ok _ _ (by decide)) qhcf43) ⟨_, rfl, (u2 rfl hb_3)⟩ rfl ?_
  refine al_ro' (ro_not up_h) ⟨_, rfl, (up_m rfl (u2 rfl hb_3))⟩ rfl ?_
  refine ar (ro_pickF (u4 rfl hb_3) up_h) rfl <| ar (ro_assign up_h) rfl <| ae1 up_h ?_; clear hb_3 s1_2; intro e_5 s2_5
  refine then_n <| aw_ret <| ret1 (.inr rfl) (by kernel_rfl) (resV_tmp s2_5) (.ro _ rfl) ?_
  clear s2_5 mo0_1 ml_1
  (first | rfl | (simp [badV, *]; done) | (simp [badV, *] <;> omega) | (simp_all [badV]; done) | (simp_all [badV] <;> omega))
set_option maxRecDepth 100000 in
set_option maxHeartbeats 4000000 in
theorem indexRight_ok (l : List V2) (hl : l.length ≤ 1000000000) : FnOk Tryd.prog 85 [.row 2 (l.map tE), .v (.func (.func 55) #[] #[])] (fun q => q = nA (idxB badV l)) := by
  refine fnOk_of (fn := Tryd.f85) 19 (by kernel_rfl) rfl (by kernel_rfl) (Nat.le_of_ble_eq_true rfl) ?_
  intro e_0 m_0 hA hm_0
  have s0_0 : evA e_0 (.tmp 0) = _ := hA 0 _ rfl
  have s1_0 : evA e_0 (.tmp 1) = _ := hA 1 _ rfl
  have ml_0 : m_0.length = 0 := by rw [hm_0]; rfl
  clear hA hm_0
  refine aw_seq <| at_ <| ar (ro_assign ev_c) rfl <| ae2 (up_m rfl s0_0) (up_m rfl s1_0) ?_; clear s0_0 s1_0; intro e_1 s0_1 s1_1
  refine then_n <| aw_seq <| aw_seq <| at_ <| ar (ro_move s0_1) rfl <| ar (ro_eq (ro_len_row up_h rfl h3_sl55.1) (by simp only [lnS] <;> rfl)) rfl ?_
  refine ar (ro_move ev_c) rfl <| ae4 (up_m rfl (u2 rfl s0_1)) (up_m rfl (u2 rfl s1_1)) (up_m rfl up_h) up_h ?_; clear s0_1 s1_1; intro e_2 s0_2 s1_2 s7_2 s8_2
  refine then_n <| aw_block <| aw_loop (S := Int) (fun i e mem => (evA e (.tmp 8) = .v (.int .i64 i)) ∧ (evA e (.tmp 0) = evA e_2 (.tmp 0)) ∧ (evA e (.tmp 1) = evA e_2 (.tmp 1)) ∧ (evA e (.tmp 7) = evA e_2 (.tmp 7)) ∧ (mem.length = 0) ∧ ((0 ≤ i ∧ i ≤ l.length ∧ ∀ j : Nat, j < i.toNat → badV (l.getD j default) = false))) (fun i => (l.length - i).toNat) _ ⟨s8_2, rfl, rfl, rfl, ml_0, ?_⟩ ?_
  · (exact ⟨by omega, by omega, fun j h => absurd h (by omega)⟩)
  · rintro i e_3 m_3 ⟨s8_3, k0_3, k1_3, k7_3, ml_3, hinv⟩
    have s0_3 := k0_3.trans s0_2
    have s1_3 := k1_3.trans s1_2
    have s7_3 := k7_3.trans s7_2
    (obtain ⟨p1, p2, p3⟩ := hinv)
    refine aw_seq <| at_ <| ar (ro_lss s8_3 s7_3) rfl <| ae5 (up_m rfl s0_3) (up_m rfl s1_3) (up_m rfl s7_3) (up_m rfl s8_3) up_h ?_; clear s0_3 s1_3 s7_3 s8_3; intro e_4 s0_4 s1_4 s7_4 s8_4 s9_4
    refine then_n <| aw_seq <| aw_case s9_4 (fun hq_5 => ?_) (fun hq_5 => ?_)
    ·replace hq_5 := bt hq_5
     refine aw_skip <| then_n <| aw_seq <| aw_block <| aw_seq <| at_ <| ar (ro_move s8_4) rfl <| ar (ro_assign up_h) rfl <| ae5 (u2 rfl s0_4) (u2 rfl s1_4) up_h (u2 rfl s7_4) (u2 rfl s8_4) ?_; clear s0_4 s1_4 s7_4 s8_4 s9_4; intro e_6 s0_6 s1_6 s5_6 s7_6 s8_6
     refine then_n <| aw_seq <| at_ <| ar (ro_move s1_6) rfl <| ar (ro_move (up_m rfl s0_6)) rfl <| ar (ro_move (u2 rfl s5_6)) rfl <| ar (ro_eq (ro_ix h3_sl55 (up_m rfl up_h) up_h (by omega) (by first | (refine idx_map ?_; first | omega | (simp only [lnS]; omega)) | (refine idx_mapI ?_; first | omega | (simp only [lnS]; omega)) | (refine idx_mapN ?_; first | omega | (simp only [lnS]; omega)) | rfl)) (by simp only [pS, Value.cells, Nat.reduceAdd, tE] <;> rfl)) rfl ?_
     refine ar (ro_eq (ro_ld_ref h3_ty23 rfl up_h (nle rfl)) (by simp only [pS, Value.cells, Nat.reduceAdd, tE] <;> rfl)) rfl ?_
     refine ar (ro_callf (u4 rfl up_h) (evL_cons up_h evL_nil) rfl (right1_ok _) h3_hcf55) rfl <| ae6 (u2 rfl (u4 rfl s0_6)) (u2 rfl (u4 rfl s1_6)) (u2 rfl (u4 rfl s5_6)) (u2 rfl (u4 rfl s7_6)) (u2 rfl (u4 rfl s8_6)) up_h ?_; clear s0_6 s1_6 s5_6 s7_6 s8_6; intro e_7 s0_7 s1_7 s5_7 s7_7 s8_7 s16_7
     refine then_n <| aw_case s16_7 (fun hq_8 => ?_) (fun hq_8 => ?_)
     ·skip
      refine aw_seq <| at_ <| ar (ro_move s5_7) rfl <| ar (ro_assign up_h) rfl <| ae1 up_h ?_; clear s0_7 s16_7 s1_7 s5_7 s7_7 s8_7; intro e_9 s4_9
      refine then_n <| aw_ret <| block_r <| then_r <| then_r <| block_r <| then_r <| ret1 (.inr rfl) (by kernel_rfl) (resV_tmp s4_9) (.ro _ rfl) ?_
      clear s4_9  ml_3
      (rw [idxB_hit (i := i.toNat) (by omega) (by assumption) p3, Int.toNat_of_nonneg p1])
     refine aw_skip <| block_n <| then_n <| at_ ?_
     (refine ar (ro_add' s8_7 ev_c ?_) rfl ?_; · (unfold In64; omega))
     refine ar (ro_move up_h) rfl <| ae4 (u2 rfl s0_7) (u2 rfl s1_7) (u2 rfl s7_7) up_h ?_; clear s0_7 s16_7 s1_7 s5_7 s7_7 s8_7; intro e_10 s0_10 s1_10 s7_10 s8_10
     refine then_n <| ⟨_, ⟨s8_10, (s0_10.trans s0_2.symm), (s1_10.trans s1_2.symm), (s7_10.trans s7_2.symm), ml_3, ?_⟩, ?_⟩
     · (refine ⟨by omega, by omega, fun j hj => ?_⟩; by_cases hji : j < i.toNat; (exact p3 j hji); (rw [show j = i.toNat by omega]; assumption))
     · ((try dsimp only); omega)
    replace hq_5 := bf hq_5
    refine aw_exit <| then_x <| then_x <| block_hit <| then_n <| aw_seq <| at_ <| ar (ro_assign ev_c) rfl <| ae1 up_h ?_; clear s0_4 s1_4 s7_4 s8_4 s9_4; intro e_11 s4_11
    refine then_n <| aw_ret <| ret1 (.inr rfl) (by kernel_rfl) (resV_tmp s4_11) (.ro _ rfl) ?_
    clear s4_11  ml_3
    (rw [idxB_miss (fun j hj => p3 j (by omega))])
set_option maxRecDepth 100000 in
set_option maxHeartbeats 1000000 in
theorem containsRight_ok (l : List V2) (hl : l.length ≤ 1000000000) : FnOk Tryd.prog 54 [.row 2 (l.map tE), .v (.func (.func 55) #[] #[])] (fun q => q = oA (l.any badV)) := by
  refine fnOk_of (fn := Tryd.f54) 9 (by kernel_rfl) rfl (by kernel_rfl) (Nat.le_of_ble_eq_true rfl) ?_
  intro e_0 m_0 hA hm_0
  have s0_0 : evA e_0 (.tmp 0) = _ := hA 0 _ rfl
  have s1_0 : evA e_0 (.tmp 1) = _ := hA 1 _ rfl
  have ml_0 : m_0.length = 0 := by rw [hm_0]; rfl
  clear hA hm_0
  refine aw_seq <| at_ <| ar (ro_assign ev_c) rfl <| ae2 (up_m rfl s0_0) (up_m rfl s1_0) ?_; clear s0_0 s1_0; intro e_1 s0_1 s1_1
  refine then_n <| aw_seq <| at_ <| ar (ro_move s0_1) rfl <| ar (ro_move (up_m rfl s1_1)) rfl <| ar (ro_call (evL_cons (up_m rfl up_h) (evL_cons up_h evL_nil)) rfl (indexRight_ok l hl) h3_hcf85) rfl <| ar (ro_geq up_h ev_c) rfl <| ar (ro_assign up_h) rfl <| ae1 up_h ?_; clear s0_1 s1_1; intro e_2 s4_2
  refine then_n <| aw_ret <| ret1 (.inr rfl) (by kernel_rfl) (resV_tmp s4_2) (.ro _ rfl) ?_
  clear s4_2  ml_0
  (refine avb ?_; simp only [decide_eq_true_eq, idxB_any])
def rightE (l : List V2) : Int := unlessE (!(l.any badV)) 2
set_option maxRecDepth 100000 in
set_option maxHeartbeats 1000000 in
theorem right_ok (l : List V2) (hl : l.length ≤ 1000000000) : FnOk Tryd.prog 29 [.row 2 (l.map tE)] (fun q => q = nA (rightE l)) := by
  refine fnOk_of (fn := Tryd.f29) 9 (by kernel_rfl) rfl (by kernel_rfl) (Nat.le_of_ble_eq_true rfl) ?_
  intro e_0 m_0 hA hm_0
  have s0_0 : evA e_0 (.tmp 0) = _ := hA 0 _ rfl
  have ml_0 : m_0.length = 0 := by rw [hm_0]; rfl
  clear hA hm_0
  refine aw_seq <| at_ <| ar (ro_assign ev_c) rfl <| ae1 (up_m rfl s0_0) ?_; clear s0_0; intro e_1 s0_1
  refine then_n <| aw_seq <| at_ <| ar (ro_move s0_1) rfl <| ar (ro_call (evL_cons up_h (evL_cons ev_f evL_nil)) rfl (containsRight_ok l hl) h3_hcf54) rfl <| ar (ro_assign up_h) rfl <| ae1 up_h ?_; clear s0_1; intro e_2 s3_2
  refine then_n <| aw_seq <| at_ <| ar (ro_move s3_2) rfl <| ar (ro_not up_h) rfl <| ar (ro_call (evL_cons up_h (evL_cons ev_c evL_nil)) rfl (sUnless_ok _ _) qhcf28) rfl <| ar (ro_assign up_h) rfl <| ae1 up_h ?_; clear s3_2; intro e_3 s2_3
  refine then_n <| aw_ret <| ret1 (.inr rfl) (by kernel_rfl) (resV_tmp s2_3) (.ro _ rfl) ?_
  clear s2_3  ml_0
  rfl
theorem badV_bd {v : V2} (h : badV v = false) : Bd 100000 v := by
  simp only [badV, smallB, withinB, Bool.or_eq_false_iff, Bool.not_eq_false', Bool.and_eq_true, decide_eq_true_eq] at h
  exact ⟨h.1, h.2⟩
theorem unlessE_z {ok : Bool} {e : Int} (he : e ≠ 0) : unlessE ok e = 0 ↔ ok = true := by
  cases ok
  · simp [unlessE, he]
  · simp [unlessE]
theorem right_bd {l : List V2} (h : rightE l = 0) : ∀ v ∈ l, Bd 100000 v := by
  unfold rightE at h
  rw [unlessE_z (by decide), Bool.not_eq_true', List.any_eq_false] at h
  intro v hv
  exact badV_bd (by simpa using h v hv)
end Go.Proofs.YtfmjmngkgmlghaaDoor

/- Contracts of chapter 3: orders and samples. No conditions on a program. -/
namespace Go.Proofs.YtfmjmngkgmlghaaDoor
open Go Go.RowKit Go.Proofs
set_option linter.unusedSimpArgs false
set_option linter.unusedVariables false

/-- The variables of the package: one, and the vectors of all states. -/
def stA : List V2 := [(0, 0), (-1, -1), (0, 1), (-1, 0), (1, 0), (0, -1), (1, 1), (0, 0)]
def gT : List (Nat × List AV) := [(0, (stA.map tE).flatten)]
theorem list_ext' {α : Type} [Inhabited α] {xs ys : List α} (hl : xs.length = ys.length) (h : ∀ j : Nat, j < xs.length → xs.getD j default = ys.getD j default) : xs = ys := by
  apply List.ext_getElem hl
  intro j h1 h2
  have := h j h1
  simpa [List.getD_eq_getElem?_getD, h1, h2] using this
theorem Bd.getD {M : Int} {xs : List V2} (h : ∀ v ∈ xs, Bd M v) (hM : 0 ≤ M) (i : Nat) : Bd M (xs.getD i default) := by
  rw [List.getD_eq_getElem?_getD]
  by_cases hi : i < xs.length
  · rw [List.getElem?_eq_getElem hi]; exact h _ (List.getElem_mem hi)
  · rw [List.getElem?_eq_none (by omega)]
    exact ⟨⟨by show -M ≤ 0; omega, by show (0 : Int) ≤ M; omega⟩, by show -M ≤ 0; omega, by show (0 : Int) ≤ M; omega⟩
end Go.Proofs.YtfmjmngkgmlghaaDoor

