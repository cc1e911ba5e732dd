/- Contracts of chapter 5: tracks joined. No conditions on a program. -/
import Derived.Test.YtgiiedpambimoaaK8
import Derived.Test.YtgiiedpambimoaaA15
namespace Go.Proofs.Ytgiiedpambimoaa
open Go Go.RowKit Go.Proofs
set_option linter.unusedSimpArgs false
set_option linter.unusedVariables false
theorem k38_az105 : (Try.prog.info? 105).bind (·.zero) = some (.agg #[.string ByteArray.empty, .slice none 0 0]) := by kernel_rfl
theorem k38_az51 : (Try.prog.info? 51).bind (·.zero) = some (.agg #[.string ByteArray.empty, .slice none 0 0]) := by kernel_rfl
theorem k38_bz51 : (Try.prog.info? 51).bind (·.zero) = some (.agg #[.string ByteArray.empty, .slice none 0 0]) := by kernel_rfl
theorem k38_bu51 : Try.prog.underlying 51 = some (.struct (fsOf Try.prog 51)) := by kernel_rfl
theorem k38_bp51 : ∀ w, ((fsOf Try.prog 51).mapM fun f => Prod.mk f.offset <$> sizeOf f.type : Sem (Array (Nat × Nat))).run Try.prog w = .ok (#[(0, 1), (1, 1)]) w := fun _ => by kernel_rfl
theorem k38_fl51_0 : FldIs Try.prog 51 0 0 false 1 := by unfold FldIs; kernel_rfl
theorem k38_fl51_1 : FldIs Try.prog 51 1 1 false 1 := by unfold FldIs; kernel_rfl
theorem k38_hcf56 : ∀ args w, (callFunc 56 args).run Try.prog w = .ok (.enter 56 args) w := fun _ _ => by kernel_rfl
theorem k38_hcf57 : ∀ args w, (callFunc 57 args).run Try.prog w = .ok (.enter 57 args) w := fun _ _ => by kernel_rfl
theorem k38_hcf66 : ∀ args w, (callFunc 66 args).run Try.prog w = .ok (.enter 66 args) w := fun _ _ => by kernel_rfl
theorem k38_hcf68 : ∀ args w, (callFunc 68 args).run Try.prog w = .ok (.enter 68 args) w := fun _ _ => by kernel_rfl
theorem k38_hcf88 : ∀ args w, (callFunc 88 args).run Try.prog w = .ok (.enter 88 args) w := fun _ _ => by kernel_rfl
theorem k38_sl126 : SlIs Try.prog 126 33 1 8 (.int .i64 0) := ⟨by kernel_rfl, by kernel_rfl, by kernel_rfl⟩
theorem k38_sl134 : SlIs Try.prog 134 49 1 24 (.slice none 0 0) := ⟨by kernel_rfl, by kernel_rfl, by kernel_rfl⟩
theorem k38_sl49 : SlIs Try.prog 49 118 4 32 (.agg #[.int .i64 0, .int .i64 0, .int .i64 0, .bool false]) := ⟨by kernel_rfl, by kernel_rfl, by kernel_rfl⟩
theorem k38_sz105 : (Try.prog.info? 105).map (·.size) = some 2 := by kernel_rfl
theorem k38_sz51 : (Try.prog.info? 51).map (·.size) = some 2 := by kernel_rfl
theorem k38_ty49 : TyIs Try.prog 49 false 1 := ⟨by kernel_rfl, by kernel_rfl⟩
theorem k38_ty51 : TyIs Try.prog 51 true 2 := ⟨by kernel_rfl, by kernel_rfl⟩
theorem k38_ty9 : TyIs Try.prog 9 false 1 := ⟨by kernel_rfl, by kernel_rfl⟩
theorem k38_ui3 : Try.prog.underlying 3 = some (.int .i64) := by kernel_rfl

set_option maxRecDepth 100000 in
set_option maxHeartbeats 4000000 in
theorem grow_ok (n : Int) (h0 : 0 ≤ n ∧ n ≤ 1000000) : FnRow Try.prog 88 [.v (.slice none 0 0), iA n] 118 4 [] := by
  refine fnRow_of (fn := Try.f88) 27 (by kernel_rfl) rfl (by kernel_rfl) (Nat.le_of_ble_eq_true rfl) (by rfl) ?_
  intro e_0 m_0 hA hm_0
  have s0_0 : evA e_0 (.tmp 0) = _ := hA 0 _ rfl
  have s1_0 : evA e_0 (.tmp 1) = _ := hA 1 _ rfl
  have ml_0 : m_0.length = 0 := by rw [hm_0]; rfl
  clear hA hm_0
  refine aw_seq ?_
  refine aw_text (by kernel_rfl) ?_
  refine al_ro' (ro_assign ev_c) trivial rfl ?_
  refine al_end (fun e_1 he_1 => ?_)
  have s0_1 := ef 0 he_1 (up_m rfl s0_0)
  have s1_1 := ef 1 he_1 (up_m rfl s1_0)
  clear he_1 s0_0 s1_0
  refine then_n ?_
  refine aw_seq ?_
  refine aw_seq ?_
  refine aw_text (by kernel_rfl) ?_
  refine al_ro' (ro_move s1_1) trivial rfl ?_
  refine al_ro' (ro_lss up_h ev_c) trivial rfl ?_
  refine al_end (fun e_2 he_2 => ?_)
  have s0_2 := ef 0 he_2 (u2 rfl s0_1)
  have s1_2 := ef 1 he_2 (u2 rfl s1_1)
  have s6_2 := ef 6 he_2 up_h
  clear he_2 s0_1 s1_1
  refine then_n ?_
  refine aw_case s6_2 (fun hq_3 => ?_) (fun hq_3 => ?_)
  · (first | replace hq_3 := bnt hq_3 | replace hq_3 := bnf hq_3 | replace hq_3 := bt hq_3 | replace hq_3 := bf hq_3 | replace hq_3 := bt' hq_3 | replace hq_3 := bf' hq_3 | skip)
    first
    | (cases hq_3; done) | (exfalso; omega)
    | (
       refine aw_text (by kernel_rfl) ?_
       fail "STOPPED operation makeInterface")
  · (first | replace hq_3 := bnt hq_3 | replace hq_3 := bnf hq_3 | replace hq_3 := bt hq_3 | replace hq_3 := bf hq_3 | replace hq_3 := bt' hq_3 | replace hq_3 := bf' hq_3 | skip)
    first
    | (cases hq_3; done) | (exfalso; omega)
    | (
       refine aw_skip ?_
       refine then_n ?_
       refine aw_seq ?_
       refine aw_seq ?_
       refine aw_text (by kernel_rfl) ?_
       refine al_ro' (ro_move s1_2) trivial rfl ?_
       refine al_ro' (ro_move (up_m rfl s0_2)) trivial rfl ?_
       refine al_ro' (ro_cap_nil up_h rfl k38_sl49.1) trivial rfl ?_
       refine al_ro' (ro_move (up_m rfl (u2 rfl s0_2))) trivial rfl ?_
       refine al_ro' (ro_len_nil up_h rfl k38_sl49.1) trivial rfl ?_
       first | (refine al_ro' (ro_sub' (u2 rfl up_h) up_h ?_) trivial rfl ?_; · (unfold In64; omega)) | refine al_ro' (ro_sub (u2 rfl up_h) up_h) trivial rfl ?_
       first | (refine al_ro' (ro_sub' (up_m rfl (u4 rfl up_h)) up_h ?_) trivial rfl ?_; · (unfold In64; omega)) | refine al_ro' (ro_sub (up_m rfl (u4 rfl up_h)) up_h) trivial rfl ?_
       refine al_ro' (ro_assign up_h) trivial rfl ?_
       refine al_end (fun e_4 he_4 => ?_)
       have s0_4 := ef 0 he_4 (u8 rfl s0_2)
       have s1_4 := ef 1 he_4 up_h
       clear he_4 s0_2 s1_2 s6_2
       refine then_n ?_
       refine aw_seq ?_
       refine aw_text (by kernel_rfl) ?_
       refine al_ro' (ro_move s1_4) trivial rfl ?_
       refine al_ro' (ro_gtr up_h ev_c) trivial rfl ?_
       refine al_end (fun e_5 he_5 => ?_)
       have s0_5 := ef 0 he_5 (u2 rfl s0_4)
       have s1_5 := ef 1 he_5 (u2 rfl s1_4)
       have s16_5 := ef 16 he_5 up_h
       clear he_5 s0_4 s1_4
       refine then_n ?_
       refine aw_case s16_5 (fun hq_6 => ?_) (fun hq_6 => ?_)
       · (first | replace hq_6 := bnt hq_6 | replace hq_6 := bnf hq_6 | replace hq_6 := bt hq_6 | replace hq_6 := bf hq_6 | replace hq_6 := bt' hq_6 | replace hq_6 := bf' hq_6 | skip)
         first
         | (cases hq_6; done) | (exfalso; omega)
         | (
            refine aw_text (by kernel_rfl) ?_
            refine al_ro' (ro_move s0_5) trivial rfl ?_
            refine al_ro' (ro_move (up_m rfl s0_5)) trivial rfl ?_
            refine al_ro' (ro_cap_nil up_h rfl k38_sl49.1) trivial rfl ?_
            refine al_ro' (ro_slnil k38_sl49 (u2 rfl up_h) up_h) trivial rfl ?_
            refine al_ro' (ro_move (u4 rfl s1_5)) trivial rfl ?_
            refine al_stm (st_appmk k38_sl49 rfl k38_ui3 rfl ml_0 (up_m rfl up_h) up_h (by omega) (by first | exact Nat.le_of_ble_eq_true rfl | omega | (simp only [lnS] <;> omega) | (simp <;> omega))) trivial rfl (fun m_7 hm_7 => ?_)
            have mo0_7 := m_push hm_7 ml_0
            (try simp only [packA_t, packA_f, iE, bE, setAt, cellsA, Value.cells, map_vc, map_vn, Nat.reduceAdd, qS] at mo0_7)
            have ml_7 := m_push_l hm_7 ml_0
            have ml_7 : _ = 1 := ml_7
            clear hm_7
            refine al_ro' (ro_move (u2 rfl (u4 rfl s0_5))) trivial rfl ?_
            refine al_ro' (ro_len_nil up_h rfl k38_sl49.1) trivial rfl ?_
            refine al_stm (st_slo k38_sl49 ml_7 mo0_7 (u2 rfl up_h) up_h (by first | exact ⟨by omega, by omega⟩ | (simp only [List.length_replicate]; exact ⟨by omega, by omega⟩))) trivial rfl (fun m_8 hm_8 => ?_)
            have mo1_8 := m_swap hm_8 ml_7
            (try simp only [packA_t, packA_f, iE, bE, setAt, cellsA, Value.cells, map_vc, map_vn, Nat.reduceAdd, qS] at mo1_8)
            have ml_8 := m_swap_l hm_8 ml_7
            have ml_8 : _ = 2 := ml_8
            clear hm_8 mo0_7
            refine al_ro' (ro_assign up_h) trivial rfl ?_
            refine al_end (fun e_9 he_9 => ?_)
            have s0_9 := ef 0 he_9 up_h
            clear he_9 s0_5 s16_5 s1_5
            refine then_n ?_
            refine aw_seq ?_
            refine aw_text (by kernel_rfl) ?_
            refine al_ro' (ro_move s0_9) trivial rfl ?_
            refine al_ro' (ro_assign up_h) trivial rfl ?_
            refine al_end (fun e_10 he_10 => ?_)
            have s4_10 := ef 4 he_10 up_h
            clear he_10 s0_9
            refine then_n ?_
            refine aw_ret ?_
            refine retRow (.inr rfl) (by kernel_rfl) s4_10 mo1_8 ?_
            first | rfl | (simp; done))
       · (first | replace hq_6 := bnt hq_6 | replace hq_6 := bnf hq_6 | replace hq_6 := bt hq_6 | replace hq_6 := bf hq_6 | replace hq_6 := bt' hq_6 | replace hq_6 := bf' hq_6 | skip)
         first
         | (cases hq_6; done) | (exfalso; omega)
         | (
            refine aw_skip ?_
            refine then_n ?_
            refine aw_seq ?_
            refine aw_text (by kernel_rfl) ?_
            refine al_ro' (ro_move s0_5) trivial rfl ?_
            refine al_ro' (ro_assign up_h) trivial rfl ?_
            refine al_end (fun e_11 he_11 => ?_)
            have s4_11 := ef 4 he_11 up_h
            clear he_11 s0_5 s16_5 s1_5
            refine then_n ?_
            refine aw_ret ?_
            refine retNil (.inr rfl) (by kernel_rfl) s4_11 ?_
            first | rfl | (simp; done)))
def catE (l : List Piece) : List AV := [.row 4 (l.map pE)]
theorem pE_one (l : List Piece) : (l.map pE).flatten.all oneA = true := by
  induction l with
  | nil => rfl
  | cons p l ih => simp only [List.map_cons, List.flatten_cons, List.all_append, ih, Bool.and_true]; rfl
theorem take_flat {α : Type} (ll : List (List α)) {i : Int} (h0 : 0 ≤ i) (hi : i < ll.length) : (ll.take (i + 1).toNat).flatten = (ll.take i.toNat).flatten ++ ll.getD i.toNat default := by
  rw [show (i + 1).toNat = i.toNat + 1 by omega, List.take_add_one, List.flatten_append, List.getElem?_eq_getElem (by omega : i.toNat < ll.length)]
  simp [List.getD_eq_getElem?_getD, show i.toNat < ll.length by omega]
theorem flat_len {α : Type} : ∀ {ll : List (List α)}, (∀ l ∈ ll, l.length ≤ 1000) → ll.flatten.length ≤ 1000 * ll.length
  | [], _ => by simp
  | l :: ll, h => by
    have h1 := h l (by simp)
    have h2 := flat_len (ll := ll) fun l hl => h l (by simp [hl])
    simp only [List.flatten_cons, List.length_append, List.length_cons]
    omega
theorem getD_le {α : Type} {ll : List (List α)} (h : ∀ l ∈ ll, l.length ≤ 1000) (i : Nat) : (ll.getD i default).length ≤ 1000 := by
  rw [List.getD_eq_getElem?_getD]
  by_cases hi : i < ll.length
  · rw [List.getElem?_eq_getElem hi]; exact h _ (List.getElem_mem hi)
  · rw [List.getElem?_eq_none (by omega)]; exact Nat.zero_le _
set_option maxRecDepth 100000 in
set_option maxHeartbeats 4000000 in
theorem concat_ok (ll : List (List Piece)) (h : ll.length ≤ 10) (hb : ∀ l ∈ ll, l.length ≤ 1000) : FnOk Try.prog 68 [.row 1 (ll.map catE)] (fun q => q = .row 4 (ll.flatten.map pE)) := by
  have hfl := fun k => flat_len (ll := ll.take k) fun l hl => hb l (List.mem_of_mem_take hl)
  have htl : ∀ k, (ll.take k).length ≤ ll.length := fun k => List.length_take_le' k ll
  refine fnOk_of (fn := Try.f68) 36 (by kernel_rfl) rfl (by kernel_rfl) (Nat.le_of_ble_eq_true rfl) ?_
  intro e_0 m_0 hA hm_0
  have s0_0 : evA e_0 (.tmp 0) = _ := hA 0 _ rfl
  have ml_0 : m_0.length = 0 := by rw [hm_0]; rfl
  clear hA hm_0
  refine aw_seq ?_
  refine aw_text (by kernel_rfl) ?_
  refine al_ro' (ro_assign ev_c) trivial rfl ?_
  refine al_end (fun e_1 he_1 => ?_)
  have s0_1 := ef 0 he_1 (up_m rfl s0_0)
  clear he_1 s0_0
  refine then_n ?_
  refine aw_seq ?_
  refine aw_text (by kernel_rfl) ?_
  refine al_ro' (ro_assign ev_c) trivial rfl ?_
  refine al_end (fun e_2 he_2 => ?_)
  have s0_2 := ef 0 he_2 (up_m rfl s0_1)
  have s3_2 := ef 3 he_2 up_h
  clear he_2 s0_1
  refine then_n ?_
  refine aw_seq ?_
  refine aw_seq ?_
  refine aw_text (by kernel_rfl) ?_
  refine al_ro' (ro_move s0_2) trivial rfl ?_
  refine al_ro' (ro_eq (ro_len_row up_h rfl k38_sl134.1) (by first | (simp only [lnS] <;> rfl) | rfl)) trivial rfl ?_
  refine al_ro' (ro_move ev_c) trivial rfl ?_
  refine al_end (fun e_3 he_3 => ?_)
  have s0_3 := ef 0 he_3 (up_m rfl (u2 rfl s0_2))
  have s3_3 := ef 3 he_3 (up_m rfl (u2 rfl s3_2))
  have s9_3 := ef 9 he_3 (u2 rfl up_h)
  have s10_3 := ef 10 he_3 (up_m rfl up_h)
  have s11_3 := ef 11 he_3 up_h
  clear he_3 s0_2 s3_2
  refine then_n ?_
  refine aw_block ?_
  refine aw_loop (S := (Int × Int)) (fun s e mem => match s with | ⟨i, n⟩ => (evA e (.tmp 11) = .v (.int .i64 i)) ∧ (evA e (.tmp 3) = .v (.int .i64 n)) ∧ (evA e (.tmp 0) = evA e_3 (.tmp 0)) ∧ (evA e (.tmp 9) = evA e_3 (.tmp 9)) ∧ (evA e (.tmp 10) = evA e_3 (.tmp 10)) ∧ (mem.length = 0) ∧ ((0 ≤ i ∧ i ≤ ll.length ∧ n = (ll.take i.toNat).flatten.length))) (fun s => match s with | ⟨i, n⟩ => (ll.length - i).toNat) ⟨_, _⟩ ⟨s11_3, s3_3, rfl, rfl, rfl, ml_0, ?_⟩ ?_
  · (exact ⟨by omega, by omega, by simp⟩)
  · rintro ⟨i, n⟩ e_4 m_4 ⟨s11_4, s3_4, k0_4, k9_4, k10_4, ml_4, hinv⟩
    have s0_4 := k0_4.trans s0_3
    have s9_4 := k9_4.trans s9_3
    have s10_4 := k10_4.trans s10_3
    (obtain ⟨p1, p2, p3⟩ := hinv; have hf1 := hfl i.toNat; have hf2 := htl i.toNat; have hf3 := getD_le hb i.toNat)
    refine aw_seq ?_
    refine aw_text (by kernel_rfl) ?_
    refine al_ro' (ro_lss s11_4 s10_4) trivial rfl ?_
    refine al_end (fun e_5 he_5 => ?_)
    have s0_5 := ef 0 he_5 (up_m rfl s0_4)
    have s3_5 := ef 3 he_5 (up_m rfl s3_4)
    have s9_5 := ef 9 he_5 (up_m rfl s9_4)
    have s10_5 := ef 10 he_5 (up_m rfl s10_4)
    have s11_5 := ef 11 he_5 (up_m rfl s11_4)
    have s12_5 := ef 12 he_5 up_h
    clear he_5 s0_4 s10_4 s11_4 s3_4 s9_4
    refine then_n ?_
    refine aw_seq ?_
    refine aw_case s12_5 (fun hq_6 => ?_) (fun hq_6 => ?_)
    · (first | replace hq_6 := bnt hq_6 | replace hq_6 := bnf hq_6 | replace hq_6 := bt hq_6 | replace hq_6 := bf hq_6 | replace hq_6 := bt' hq_6 | replace hq_6 := bf' hq_6 | skip)
      first
      | (cases hq_6; done) | (exfalso; omega)
      | (
         refine aw_skip ?_
         refine then_n ?_
         refine aw_seq ?_
         refine aw_block ?_
         refine aw_seq ?_
         refine aw_text (by kernel_rfl) ?_
         refine al_ro' (ro_eq (ro_ix k38_sl134 s9_5 s11_5 (by first | decide | omega | (simp <;> omega)) (by first | (refine idx_map ?_; first | omega | (simp only [lnS]; omega)) | (refine idx_mapI ?_; first | omega | (simp only [lnS]; omega)) | (refine idx_mapN ?_; first | omega | (simp only [lnS]; omega)) | rfl)) (by first | (simp only [packA_t, packA_f, iE, bE, setAt, cellsA, Value.cells, map_vc, map_vn, Nat.reduceAdd, qS, catE, pE, one_iE, app_m] <;> rfl) | rfl)) trivial rfl ?_
         refine al_ro' (ro_eq (ro_ld_ref k38_ty49 rfl up_h (by first | exact Nat.le_of_ble_eq_true rfl | omega | (simp only [lnS] <;> omega) | (simp <;> omega))) (by first | (simp only [packA_t, packA_f, iE, bE, setAt, cellsA, Value.cells, map_vc, map_vn, Nat.reduceAdd, qS, catE, pE, one_iE, app_m] <;> rfl) | rfl)) trivial rfl ?_
         refine al_ro' (ro_assign up_h) trivial rfl ?_
         refine al_end (fun e_7 he_7 => ?_)
         have s0_7 := ef 0 he_7 (up_m rfl (u2 rfl s0_5))
         have s3_7 := ef 3 he_7 (up_m rfl (u2 rfl s3_5))
         have s5_7 := ef 5 he_7 up_h
         have s9_7 := ef 9 he_7 (up_m rfl (u2 rfl s9_5))
         have s10_7 := ef 10 he_7 (up_m rfl (u2 rfl s10_5))
         have s11_7 := ef 11 he_7 (up_m rfl (u2 rfl s11_5))
         clear he_7 s0_5 s10_5 s11_5 s12_5 s3_5 s9_5
         refine then_n ?_
         refine aw_seq ?_
         refine aw_text (by kernel_rfl) ?_
         refine al_ro' (ro_move s3_7) trivial rfl ?_
         refine al_ro' (ro_move (up_m rfl s5_7)) trivial rfl ?_
         refine al_ro' (ro_eq (ro_len_row up_h rfl k38_sl49.1) (by first | (simp only [lnS] <;> rfl) | rfl)) trivial rfl ?_
         first | (refine al_ro' (ro_add' (u2 rfl up_h) up_h ?_) trivial rfl ?_; · (unfold In64; omega)) | refine al_ro' (ro_add (u2 rfl up_h) up_h) trivial rfl ?_
         refine al_ro' (ro_assign up_h) trivial rfl ?_
         refine al_end (fun e_8 he_8 => ?_)
         have s0_8 := ef 0 he_8 (up_m rfl (u4 rfl s0_7))
         have s3_8 := ef 3 he_8 up_h
         have s9_8 := ef 9 he_8 (up_m rfl (u4 rfl s9_7))
         have s10_8 := ef 10 he_8 (up_m rfl (u4 rfl s10_7))
         have s11_8 := ef 11 he_8 (up_m rfl (u4 rfl s11_7))
         clear he_8 s0_7 s10_7 s11_7 s3_7 s5_7 s9_7
         refine then_n ?_
         refine aw_seq ?_
         refine aw_text (by kernel_rfl) ?_
         refine al_ro' (ro_move s3_8) trivial rfl ?_
         refine al_ro' (ro_lss up_h ev_c) trivial rfl ?_
         refine al_end (fun e_9 he_9 => ?_)
         have s0_9 := ef 0 he_9 (u2 rfl s0_8)
         have s3_9 := ef 3 he_9 (u2 rfl s3_8)
         have s9_9 := ef 9 he_9 (u2 rfl s9_8)
         have s10_9 := ef 10 he_9 (u2 rfl s10_8)
         have s11_9 := ef 11 he_9 (u2 rfl s11_8)
         have s20_9 := ef 20 he_9 up_h
         clear he_9 s0_8 s10_8 s11_8 s3_8 s9_8
         refine then_n ?_
         refine aw_case s20_9 (fun hq_10 => ?_) (fun hq_10 => ?_)
         · (first | replace hq_10 := bnt hq_10 | replace hq_10 := bnf hq_10 | replace hq_10 := bt hq_10 | replace hq_10 := bf hq_10 | replace hq_10 := bt' hq_10 | replace hq_10 := bf' hq_10 | skip)
           first
           | (cases hq_10; done) | (exfalso; omega)
           | (
              refine aw_text (by kernel_rfl) ?_
              fail "STOPPED operation makeInterface")
         · (first | replace hq_10 := bnt hq_10 | replace hq_10 := bnf hq_10 | replace hq_10 := bt hq_10 | replace hq_10 := bf hq_10 | replace hq_10 := bt' hq_10 | replace hq_10 := bf' hq_10 | skip)
           first
           | (cases hq_10; done) | (exfalso; omega)
           | (
              refine aw_skip ?_
              refine block_n ?_
              refine then_n ?_
              refine aw_text (by kernel_rfl) ?_
              first | (refine al_ro' (ro_add' s11_9 ev_c ?_) trivial rfl ?_; · (unfold In64; omega)) | refine al_ro' (ro_add s11_9 ev_c) trivial rfl ?_
              refine al_ro' (ro_move up_h) trivial rfl ?_
              refine al_end (fun e_11 he_11 => ?_)
              have s0_11 := ef 0 he_11 (u2 rfl s0_9)
              have s3_11 := ef 3 he_11 (u2 rfl s3_9)
              have s9_11 := ef 9 he_11 (u2 rfl s9_9)
              have s10_11 := ef 10 he_11 (u2 rfl s10_9)
              have s11_11 := ef 11 he_11 up_h
              clear he_11 s0_9 s10_9 s11_9 s20_9 s3_9 s9_9
              refine then_n ?_
              refine ⟨⟨_, _⟩, ⟨s11_11, s3_11, (s0_11.trans s0_3.symm), (s9_11.trans s9_3.symm), (s10_11.trans s10_3.symm), ml_4, ?_⟩, ?_⟩
              · (refine ⟨by omega, by omega, ?_⟩; rw [take_flat ll p1 (by omega), List.length_append]; omega)
              · ((try dsimp only); omega)))
    · (first | replace hq_6 := bnt hq_6 | replace hq_6 := bnf hq_6 | replace hq_6 := bt hq_6 | replace hq_6 := bf hq_6 | replace hq_6 := bt' hq_6 | replace hq_6 := bf' hq_6 | skip)
      first
      | (cases hq_6; done) | (exfalso; omega)
      | (
         refine aw_exit ?_
         refine then_x ?_
         refine then_x ?_
         refine block_hit ?_
         refine then_n ?_
         refine aw_seq ?_
         refine aw_text (by kernel_rfl) ?_
         refine al_ro' (ro_move s3_5) trivial rfl ?_
         refine al_stm (st_callrow ml_4 (evL_cons ev_c (evL_cons up_h evL_nil)) rfl (grow_ok _ (by omega)) k38_hcf88) trivial rfl (fun m_12 hm_12 => ?_)
         have mo0_12 := m_push hm_12 ml_4
         (try simp only [packA_t, packA_f, iE, bE, setAt, cellsA, Value.cells, map_vc, map_vn, Nat.reduceAdd, qS, catE, pE, one_iE, app_m] at mo0_12)
         have ml_12 := m_push_l hm_12 ml_4
         have ml_12 : _ = 1 := ml_12
         clear hm_12
         refine al_ro' (ro_assign up_h) trivial rfl ?_
         refine al_end (fun e_13 he_13 => ?_)
         have s0_13 := ef 0 he_13 (up_m rfl (u2 rfl s0_5))
         have s6_13 := ef 6 he_13 up_h
         clear he_13 s0_5 s10_5 s11_5 s12_5 s3_5 s9_5
         refine then_n ?_
         refine aw_seq ?_
         refine aw_seq ?_
         refine aw_text (by kernel_rfl) ?_
         refine al_ro' (ro_move s0_13) trivial rfl ?_
         refine al_ro' (ro_eq (ro_len_row up_h rfl k38_sl134.1) (by first | (simp only [lnS] <;> rfl) | rfl)) trivial rfl ?_
         refine al_ro' (ro_move ev_c) trivial rfl ?_
         refine al_end (fun e_14 he_14 => ?_)
         have s6_14 := ef 6 he_14 (up_m rfl (u2 rfl s6_13))
         have s25_14 := ef 25 he_14 (u2 rfl up_h)
         have s26_14 := ef 26 he_14 (up_m rfl up_h)
         have s27_14 := ef 27 he_14 up_h
         clear he_14 s0_13 s6_13
         refine then_n ?_
         refine aw_block ?_
         refine aw_loop (S := (Int × List Piece)) (fun s e mem => match s with | ⟨i, xs⟩ => (evA e (.tmp 27) = .v (.int .i64 i)) ∧ (evA e (.tmp 25) = evA e_14 (.tmp 25)) ∧ (evA e (.tmp 26) = evA e_14 (.tmp 26)) ∧ (∃ j, evA e (.tmp 6) = .own j ∧ mem[j]? = some (.row 118 4 (xs.map pE)) ∧ True) ∧ (∃ n, mem.length = n ∧ 1 ≤ n) ∧ ((0 ≤ i ∧ i ≤ ll.length ∧ xs = (ll.take i.toNat).flatten))) (fun s => match s with | ⟨i, xs⟩ => (ll.length - i).toNat) ⟨_, []⟩ ⟨s27_14, rfl, rfl, ⟨_, s6_14, mo0_12, trivial⟩, ⟨_, ml_12, Nat.le_refl _⟩, ?_⟩ ?_
         · (exact ⟨by omega, by omega, by simp⟩)
         · rintro ⟨i, xs⟩ e_15 m_15 ⟨s27_15, k25_15, k26_15, ⟨j6_15, s6_15, mo_j6_15, -⟩, ⟨n_15, ml_15, hn_15⟩, hinv⟩
           have s25_15 := k25_15.trans s25_14
           have s26_15 := k26_15.trans s26_14
           have jl6_15 := m_lt mo_j6_15 ml_15
           (obtain ⟨p4, p5, p6⟩ := hinv; have hf4 := hfl i.toNat; have hf5 := htl i.toNat; have hf6 := getD_le hb i.toNat; have hxl : xs.length = (ll.take i.toNat).flatten.length := (by rw [p6]))
           refine aw_seq ?_
           refine aw_text (by kernel_rfl) ?_
           refine al_ro' (ro_lss s27_15 s26_15) trivial rfl ?_
           refine al_end (fun e_16 he_16 => ?_)
           have s6_16 := ef 6 he_16 (up_m rfl s6_15)
           have s25_16 := ef 25 he_16 (up_m rfl s25_15)
           have s26_16 := ef 26 he_16 (up_m rfl s26_15)
           have s27_16 := ef 27 he_16 (up_m rfl s27_15)
           have s28_16 := ef 28 he_16 up_h
           clear he_16 s25_15 s26_15 s27_15 s6_15
           refine then_n ?_
           refine aw_seq ?_
           refine aw_case s28_16 (fun hq_17 => ?_) (fun hq_17 => ?_)
           · (first | replace hq_17 := bnt hq_17 | replace hq_17 := bnf hq_17 | replace hq_17 := bt hq_17 | replace hq_17 := bf hq_17 | replace hq_17 := bt' hq_17 | replace hq_17 := bf' hq_17 | skip)
             first
             | (cases hq_17; done) | (exfalso; omega)
             | (
                refine aw_skip ?_
                refine then_n ?_
                refine aw_seq ?_
                refine aw_block ?_
                refine aw_seq ?_
                refine aw_text (by kernel_rfl) ?_
                refine al_ro' (ro_eq (ro_ix k38_sl134 s25_16 s27_16 (by first | decide | omega | (simp <;> omega)) (by first | (refine idx_map ?_; first | omega | (simp only [lnS]; omega)) | (refine idx_mapI ?_; first | omega | (simp only [lnS]; omega)) | (refine idx_mapN ?_; first | omega | (simp only [lnS]; omega)) | rfl)) (by first | (simp only [packA_t, packA_f, iE, bE, setAt, cellsA, Value.cells, map_vc, map_vn, Nat.reduceAdd, qS, catE, pE, one_iE, app_m] <;> rfl) | rfl)) trivial rfl ?_
                refine al_ro' (ro_eq (ro_ld_ref k38_ty49 rfl up_h (by first | exact Nat.le_of_ble_eq_true rfl | omega | (simp only [lnS] <;> omega) | (simp <;> omega))) (by first | (simp only [packA_t, packA_f, iE, bE, setAt, cellsA, Value.cells, map_vc, map_vn, Nat.reduceAdd, qS, catE, pE, one_iE, app_m] <;> rfl) | rfl)) trivial rfl ?_
                refine al_ro' (ro_assign up_h) trivial rfl ?_
                refine al_end (fun e_18 he_18 => ?_)
                have s6_18 := ef 6 he_18 (up_m rfl (u2 rfl s6_16))
                have s8_18 := ef 8 he_18 up_h
                have s25_18 := ef 25 he_18 (up_m rfl (u2 rfl s25_16))
                have s26_18 := ef 26 he_18 (up_m rfl (u2 rfl s26_16))
                have s27_18 := ef 27 he_18 (up_m rfl (u2 rfl s27_16))
                clear he_18 s25_16 s26_16 s27_16 s28_16 s6_16
                refine then_n ?_
                refine aw_text (by kernel_rfl) ?_
                refine al_ro' (ro_move s6_18) trivial rfl ?_
                refine al_ro' (ro_move (up_m rfl s8_18)) trivial rfl ?_
                refine al_stm (st_app k38_sl49 rfl ml_15 mo_j6_15 (up_m rfl up_h) up_h (by first | rfl | (simp [oneA]; done) | (exact pE_one _)) (by first | omega | (simp only [lnS] <;> omega) | (simp <;> omega))) trivial rfl (fun m_19 hm_19 => ?_)
                have mon_15_19 := m_swap hm_19 ml_15
                (try simp only [packA_t, packA_f, iE, bE, setAt, cellsA, Value.cells, map_vc, map_vn, Nat.reduceAdd, qS, catE, pE, one_iE, app_m] at mon_15_19)
                have ml_19 := m_swap_l hm_19 ml_15
                clear hm_19 mo_j6_15
                refine al_ro' (ro_assign up_h) trivial rfl ?_
                refine al_end (fun e_20 he_20 => ?_)
                have s6_20 := ef 6 he_20 up_h
                have s25_20 := ef 25 he_20 (u4 rfl s25_18)
                have s26_20 := ef 26 he_20 (u4 rfl s26_18)
                have s27_20 := ef 27 he_20 (u4 rfl s27_18)
                clear he_20 s25_18 s26_18 s27_18 s6_18 s8_18
                refine block_n ?_
                refine then_n ?_
                refine aw_text (by kernel_rfl) ?_
                first | (refine al_ro' (ro_add' s27_20 ev_c ?_) trivial rfl ?_; · (unfold In64; omega)) | refine al_ro' (ro_add s27_20 ev_c) trivial rfl ?_
                refine al_ro' (ro_move up_h) trivial rfl ?_
                refine al_end (fun e_21 he_21 => ?_)
                have s6_21 := ef 6 he_21 (u2 rfl s6_20)
                have s25_21 := ef 25 he_21 (u2 rfl s25_20)
                have s26_21 := ef 26 he_21 (u2 rfl s26_20)
                have s27_21 := ef 27 he_21 up_h
                clear he_21 s25_20 s26_20 s27_20 s6_20
                refine then_n ?_
                refine ⟨⟨_, _⟩, ⟨s27_21, (s25_21.trans s25_14.symm), (s26_21.trans s26_14.symm), ⟨_, s6_21, mon_15_19, trivial⟩, ⟨_, ml_19, by omega⟩, ?_⟩, ?_⟩
                · (refine ⟨by omega, by omega, ?_⟩; rw [take_flat ll p4 (by omega), p6])
                · ((try dsimp only); omega))
           · (first | replace hq_17 := bnt hq_17 | replace hq_17 := bnf hq_17 | replace hq_17 := bt hq_17 | replace hq_17 := bf hq_17 | replace hq_17 := bt' hq_17 | replace hq_17 := bf' hq_17 | skip)
             first
             | (cases hq_17; done) | (exfalso; omega)
             | (
                refine aw_exit ?_
                refine then_x ?_
                refine then_x ?_
                refine block_hit ?_
                refine then_n ?_
                refine aw_seq ?_
                refine aw_text (by kernel_rfl) ?_
                refine al_ro' (ro_move s6_16) trivial rfl ?_
                refine al_ro' (ro_assign up_h) trivial rfl ?_
                refine al_end (fun e_22 he_22 => ?_)
                have s2_22 := ef 2 he_22 up_h
                clear he_22 s25_16 s26_16 s27_16 s28_16 s6_16
                refine then_n ?_
                refine aw_ret ?_
                refine ret1 (.inr rfl) (by kernel_rfl) (resV_tmp s2_22) (.own _ _ _ _ mo_j6_15) ?_
                clear s2_22 mo_j6_15 ml_15
                (rw [p6, List.take_of_length_le (by omega)])))
def jnE (na : ByteArray) (ps : List Piece) (nb : ByteArray) (qs : List Piece) : Int := firstE [(chk na ps).2, (chk nb qs).2, unlessE (decide ((ps.length : Int) + qs.length ≤ 12)) 8]
set_option maxRecDepth 100000 in
set_option maxHeartbeats 4000000 in
theorem joined_ok (na : ByteArray) (ps : List Piece) (nb : ByteArray) (qs : List Piece) (ha : na.size ≤ 1000000000) (hp : ps.length ≤ 1000) (hb : nb.size ≤ 1000000000) (hq : qs.length ≤ 1000) :
    FnOk Try.prog 32 [trA na ps, trA nb qs] (fun q => q = .tuple [trA (if jnE na ps nb qs = 0 then na else ⟨#[]⟩) (if jnE na ps nb qs = 0 then ps ++ qs else []), iA (jnE na ps nb qs)]) := by
  refine fnOk_of (fn := Try.f32) 46 (by kernel_rfl) rfl (by kernel_rfl) (Nat.le_of_ble_eq_true rfl) ?_
  intro e_0 m_0 hA hm_0
  have s0_0 : evA e_0 (.tmp 0) = _ := hA 0 _ rfl
  have s1_0 : evA e_0 (.tmp 1) = _ := hA 1 _ rfl
  have ml_0 : m_0.length = 0 := by rw [hm_0]; rfl
  clear hA hm_0
  refine aw_seq ?_
  refine aw_text (by kernel_rfl) ?_
  refine al_stm (st_box s0_0 rfl ml_0) trivial rfl (fun m_1 hm_1 => ?_)
  have mo0_1 := m_push hm_1 ml_0
  (try simp only [packA_t, packA_f, iE, bE, setAt, cellsA, Value.cells, map_vc, map_vn, Nat.reduceAdd, qS] at mo0_1)
  have ml_1 := m_push_l hm_1 ml_0
  have ml_1 : _ = 1 := ml_1
  clear hm_1
  refine al_stm (st_box (up_m rfl s1_0) rfl ml_1) trivial rfl (fun m_2 hm_2 => ?_)
  have mo1_2 := m_push hm_2 ml_1
  (try simp only [packA_t, packA_f, iE, bE, setAt, cellsA, Value.cells, map_vc, map_vn, Nat.reduceAdd, qS] at mo1_2)
  have mo0_2 := m_push_o hm_2 mo0_1
  have ml_2 := m_push_l hm_2 ml_1
  have ml_2 : _ = 2 := ml_2
  clear hm_2 mo0_1
  refine al_stm (st_alloc k38_az51 rfl ml_2) trivial rfl (fun m_3 hm_3 => ?_)
  have mo2_3 := m_push hm_3 ml_2
  (try simp only [packA_t, packA_f, iE, bE, setAt, cellsA, Value.cells, map_vc, map_vn, Nat.reduceAdd, qS] at mo2_3)
  have mo1_3 := m_push_o hm_3 mo1_2
  have mo0_3 := m_push_o hm_3 mo0_2
  have ml_3 := m_push_l hm_3 ml_2
  have ml_3 : _ = 3 := ml_3
  clear hm_3 mo1_2 mo0_2
  refine al_ro' (ro_assign ev_c) trivial rfl ?_
  refine al_end (fun e_4 he_4 => ?_)
  have s2_4 := ef 2 he_4 (up_m rfl (u2 rfl up_h))
  have s3_4 := ef 3 he_4 (u2 rfl up_h)
  have s4_4 := ef 4 he_4 (up_m rfl up_h)
  clear he_4 s0_0 s1_0
  refine then_n ?_
  refine aw_seq ?_
  refine aw_text (by kernel_rfl) ?_
  refine al_ro' (ro_eq (ro_ld_ptr k38_ty51 rfl mo0_3 s2_4 (by first | exact Nat.le_of_ble_eq_true rfl | omega | (simp only [lnS] <;> omega) | (simp <;> omega))) (by first | (simp only [packA_t, packA_f, iE, bE, setAt, cellsA, Value.cells, map_vc, map_vn, Nat.reduceAdd, qS] <;> rfl) | rfl)) trivial rfl ?_
  refine al_ro' (ro_call (evL_cons up_h evL_nil) rfl (open_ok na ps ha (by omega)) k38_hcf66) trivial rfl ?_
  refine al_ro' (ro_move up_h) trivial rfl ?_
  refine al_ro' (ro_extract up_h rfl) trivial rfl ?_
  refine al_ro' (ro_extract (up_m rfl up_h) rfl) trivial rfl ?_
  refine al_stm (st_alloc k38_az105 rfl ml_3) trivial rfl (fun m_5 hm_5 => ?_)
  have mo3_5 := m_push hm_5 ml_3
  (try simp only [packA_t, packA_f, iE, bE, setAt, cellsA, Value.cells, map_vc, map_vn, Nat.reduceAdd, qS] at mo3_5)
  have mo2_5 := m_push_o hm_5 mo2_3
  have mo1_5 := m_push_o hm_5 mo1_3
  have mo0_5 := m_push_o hm_5 mo0_3
  have ml_5 := m_push_l hm_5 ml_3
  have ml_5 : _ = 4 := ml_5
  clear hm_5 mo2_3 mo1_3 mo0_3
  refine al_stm (st_store up_h (u2 rfl up_h) rfl rfl mo3_5 k38_sz105 rfl (by first | exact Nat.le_of_ble_eq_true rfl | omega | (simp only [lnS] <;> omega) | (simp <;> omega))) trivial rfl (fun m_6 hm_6 => ?_)
  have mo3_6 := m_set hm_6 mo3_5
  (try simp only [packA_t, packA_f, iE, bE, setAt, cellsA, Value.cells, map_vc, map_vn, Nat.reduceAdd, qS] at mo3_6)
  have mo2_6 := m_set_o hm_6 mo2_5 (by decide)
  have mo1_6 := m_set_o hm_6 mo1_5 (by decide)
  have mo0_6 := m_set_o hm_6 mo0_5 (by decide)
  have ml_6 := m_set_l hm_6 ml_5
  clear hm_6 mo3_5 mo2_5 mo1_5 mo0_5
  refine al_ro' (ro_assign (up_n (up_m rfl up_h))) trivial rfl ?_
  refine al_end (fun e_7 he_7 => ?_)
  have s2_7 := ef 2 he_7 (up_m rfl (up_n (u2 rfl (u4 rfl s2_4))))
  have s3_7 := ef 3 he_7 (up_m rfl (up_n (u2 rfl (u4 rfl s3_4))))
  have s4_7 := ef 4 he_7 (up_m rfl (up_n (u2 rfl (u4 rfl s4_4))))
  have s7_7 := ef 7 he_7 up_h
  clear he_7 s2_4 s3_4 s4_4
  refine then_n ?_
  refine aw_seq ?_
  refine aw_text (by kernel_rfl) ?_
  refine al_ro' (ro_eq (ro_ld_ptr k38_ty51 rfl mo1_6 s3_7 (by first | exact Nat.le_of_ble_eq_true rfl | omega | (simp only [lnS] <;> omega) | (simp <;> omega))) (by first | (simp only [packA_t, packA_f, iE, bE, setAt, cellsA, Value.cells, map_vc, map_vn, Nat.reduceAdd, qS] <;> rfl) | rfl)) trivial rfl ?_
  refine al_ro' (ro_call (evL_cons up_h evL_nil) rfl (open_ok nb qs hb (by omega)) k38_hcf66) trivial rfl ?_
  refine al_ro' (ro_move up_h) trivial rfl ?_
  refine al_ro' (ro_extract up_h rfl) trivial rfl ?_
  refine al_ro' (ro_extract (up_m rfl up_h) rfl) trivial rfl ?_
  refine al_stm (st_alloc k38_az105 rfl ml_6) trivial rfl (fun m_8 hm_8 => ?_)
  have mo4_8 := m_push hm_8 ml_6
  (try simp only [packA_t, packA_f, iE, bE, setAt, cellsA, Value.cells, map_vc, map_vn, Nat.reduceAdd, qS] at mo4_8)
  have mo3_8 := m_push_o hm_8 mo3_6
  have mo2_8 := m_push_o hm_8 mo2_6
  have mo1_8 := m_push_o hm_8 mo1_6
  have mo0_8 := m_push_o hm_8 mo0_6
  have ml_8 := m_push_l hm_8 ml_6
  have ml_8 : _ = 5 := ml_8
  clear hm_8 mo3_6 mo2_6 mo1_6 mo0_6
  refine al_stm (st_store up_h (u2 rfl up_h) rfl rfl mo4_8 k38_sz105 rfl (by first | exact Nat.le_of_ble_eq_true rfl | omega | (simp only [lnS] <;> omega) | (simp <;> omega))) trivial rfl (fun m_9 hm_9 => ?_)
  have mo4_9 := m_set hm_9 mo4_8
  (try simp only [packA_t, packA_f, iE, bE, setAt, cellsA, Value.cells, map_vc, map_vn, Nat.reduceAdd, qS] at mo4_9)
  have mo3_9 := m_set_o hm_9 mo3_8 (by decide)
  have mo2_9 := m_set_o hm_9 mo2_8 (by decide)
  have mo1_9 := m_set_o hm_9 mo1_8 (by decide)
  have mo0_9 := m_set_o hm_9 mo0_8 (by decide)
  have ml_9 := m_set_l hm_9 ml_8
  clear hm_9 mo4_8 mo3_8 mo2_8 mo1_8 mo0_8
  refine al_ro' (ro_assign (up_n (up_m rfl up_h))) trivial rfl ?_
  refine al_end (fun e_10 he_10 => ?_)
  have s2_10 := ef 2 he_10 (up_m rfl (up_n (u2 rfl (u4 rfl s2_7))))
  have s3_10 := ef 3 he_10 (up_m rfl (up_n (u2 rfl (u4 rfl s3_7))))
  have s4_10 := ef 4 he_10 (up_m rfl (up_n (u2 rfl (u4 rfl s4_7))))
  have s7_10 := ef 7 he_10 (up_m rfl (up_n (u2 rfl (u4 rfl s7_7))))
  have s9_10 := ef 9 he_10 up_h
  clear he_10 s2_7 s3_7 s4_7 s7_7
  refine then_n ?_
  refine aw_seq ?_
  refine aw_seq ?_
  refine aw_text (by kernel_rfl) ?_
  refine al_ro' (ro_move s7_10) trivial rfl ?_
  refine al_ro' (ro_move (up_m rfl s9_10)) trivial rfl ?_
  refine al_ro' (ro_fld_ptr k38_fl51_1 rfl (u2 rfl s2_10)) trivial rfl ?_
  refine al_ro' (ro_eq (ro_ld_ptr k38_ty49 rfl mo0_9 up_h (by first | exact Nat.le_of_ble_eq_true rfl | omega | (simp only [lnS] <;> omega) | (simp <;> omega))) (by first | (simp only [packA_t, packA_f, iE, bE, setAt, cellsA, Value.cells, map_vc, map_vn, Nat.reduceAdd, qS] <;> rfl) | rfl)) trivial rfl ?_
  refine al_ro' (ro_eq (ro_len_row up_h rfl k38_sl49.1) (by first | (simp only [lnS] <;> rfl) | rfl)) trivial rfl ?_
  refine al_ro' (ro_fld_ptr k38_fl51_1 rfl (up_m rfl (u4 rfl s3_10))) trivial rfl ?_
  refine al_ro' (ro_eq (ro_ld_ptr k38_ty49 rfl mo1_9 up_h (by first | exact Nat.le_of_ble_eq_true rfl | omega | (simp only [lnS] <;> omega) | (simp <;> omega))) (by first | (simp only [packA_t, packA_f, iE, bE, setAt, cellsA, Value.cells, map_vc, map_vn, Nat.reduceAdd, qS] <;> rfl) | rfl)) trivial rfl ?_
  refine al_ro' (ro_eq (ro_len_row up_h rfl k38_sl49.1) (by first | (simp only [lnS] <;> rfl) | rfl)) trivial rfl ?_
  first | (refine al_ro' (ro_add' (up_m rfl (u2 rfl up_h)) up_h ?_) trivial rfl ?_; · (unfold In64; omega)) | refine al_ro' (ro_add (up_m rfl (u2 rfl up_h)) up_h) trivial rfl ?_
  refine al_ro' (ro_leq up_h ev_c) trivial rfl ?_
  refine al_ro' (ro_call (evL_cons up_h (evL_cons ev_c evL_nil)) rfl (unless_ok _ _) k38_hcf57) trivial rfl ?_
  refine al_ro' (ro_lit k38_sl126 (evP_cons (u2 rfl (u8 rfl up_h)) (evP_cons (up_m rfl (u8 rfl up_h)) (evP_cons up_h evP_nil))) rfl rfl rfl rfl) trivial rfl ?_
  refine al_ro' (ro_call (evL_cons up_h evL_nil) rfl (first_ok [_, _, _] (by simp)) k38_hcf56) trivial rfl ?_
  refine al_ro' (ro_assign up_h) trivial rfl ?_
  refine al_end (fun e_11 he_11 => ?_)
  have s2_11 := ef 2 he_11 (u2 rfl (u4 rfl (u8 rfl s2_10)))
  have s3_11 := ef 3 he_11 (u2 rfl (u4 rfl (u8 rfl s3_10)))
  have s4_11 := ef 4 he_11 (u2 rfl (u4 rfl (u8 rfl s4_10)))
  have s7_11 := ef 7 he_11 up_h
  clear he_11 s2_10 s3_10 s4_10 s7_10 s9_10
  refine then_n ?_
  refine aw_seq ?_
  refine aw_text (by kernel_rfl) ?_
  refine al_ro' (ro_move s7_11) trivial rfl ?_
  refine al_ro' (ro_neq up_h ev_c) trivial rfl ?_
  refine al_end (fun e_12 he_12 => ?_)
  have s2_12 := ef 2 he_12 (u2 rfl s2_11)
  have s3_12 := ef 3 he_12 (u2 rfl s3_11)
  have s4_12 := ef 4 he_12 (u2 rfl s4_11)
  have s7_12 := ef 7 he_12 (u2 rfl s7_11)
  have s34_12 := ef 34 he_12 up_h
  clear he_12 s2_11 s3_11 s4_11 s7_11
  refine then_n ?_
  refine aw_case s34_12 (fun hq_13 => ?_) (fun hq_13 => ?_)
  · (first | replace hq_13 := bnt hq_13 | replace hq_13 := bnf hq_13 | replace hq_13 := bt hq_13 | replace hq_13 := bf hq_13 | replace hq_13 := bt' hq_13 | replace hq_13 := bf' hq_13 | skip)
    first
    | (cases hq_13; done) | (exfalso; omega)
    | (
       (have hn : ¬ jnE na ps nb qs = 0 := (by assumption))
       refine aw_seq ?_
       refine aw_text (by kernel_rfl) ?_
       refine al_ro' (ro_build evP_nil k38_bz51 k38_bu51 k38_bp51 rfl) trivial rfl ?_
       refine al_ro' (ro_move (up_m rfl s7_12)) trivial rfl ?_
       refine al_stm (st_store (u2 rfl s4_12) (up_m rfl up_h) rfl rfl mo2_9 k38_sz51 rfl (by first | exact Nat.le_of_ble_eq_true rfl | omega | (simp only [lnS] <;> omega) | (simp <;> omega))) trivial rfl (fun m_14 hm_14 => ?_)
       have mo2_14 := m_set hm_14 mo2_9
       (try simp only [packA_t, packA_f, iE, bE, setAt, cellsA, Value.cells, map_vc, map_vn, Nat.reduceAdd, qS] at mo2_14)
       have mo4_14 := m_set_o hm_14 mo4_9 (by decide)
       have mo3_14 := m_set_o hm_14 mo3_9 (by decide)
       have mo1_14 := m_set_o hm_14 mo1_9 (by decide)
       have mo0_14 := m_set_o hm_14 mo0_9 (by decide)
       have ml_14 := m_set_l hm_14 ml_9
       clear hm_14 mo4_9 mo3_9 mo2_9 mo1_9 mo0_9
       refine al_ro' (ro_assign (up_n up_h)) trivial rfl ?_
       refine al_end (fun e_15 he_15 => ?_)
       have s4_15 := ef 4 he_15 (up_m rfl (up_n (u2 rfl s4_12)))
       have s5_15 := ef 5 he_15 up_h
       clear he_15 s2_12 s34_12 s3_12 s4_12 s7_12
       refine then_n ?_
       refine aw_ret ?_
       refine then_r ?_
       refine ret2 (.inr rfl) (by kernel_rfl) (resV_cell s4_15 mo2_14 k38_ty51 (by first | exact Nat.le_of_ble_eq_true rfl | omega | (simp only [lnS] <;> omega) | (simp <;> omega)) (by simp)) (resV_tmp s5_15) (vw_r (vw_agg (vwl_cons (.ro _ rfl) (vwl_cons (.nil 4) vwl_nil)))) (.ro _ rfl) ?_
       clear s4_15 s5_15 mo2_14 mo4_14 mo3_14 mo1_14 mo0_14 ml_14
       (rw [if_neg hn, if_neg hn]; rfl))
  · (first | replace hq_13 := bnt hq_13 | replace hq_13 := bnf hq_13 | replace hq_13 := bt hq_13 | replace hq_13 := bf hq_13 | replace hq_13 := bt' hq_13 | replace hq_13 := bf' hq_13 | skip)
    first
    | (cases hq_13; done) | (exfalso; omega)
    | (
       (have hz : jnE na ps nb qs = 0 := (by assumption))
       refine aw_skip ?_
       refine then_n ?_
       refine aw_seq ?_
       refine aw_draw 9 (by kernel_rfl) (by kernel_rfl) (by kernel_rfl) (by kernel_rfl) ?_
       refine ds_ro' (ro_fld_ptr k38_fl51_0 rfl s2_12) trivial rfl ?_
       refine ds_ro' (ro_eq (ro_ld_ptr k38_ty9 rfl mo0_9 up_h (by first | exact Nat.le_of_ble_eq_true rfl | omega | (simp only [lnS] <;> omega) | (simp <;> omega))) (by first | (simp only [packA_t, packA_f, iE, bE, setAt, cellsA, Value.cells, map_vc, map_vn, Nat.reduceAdd, qS] <;> rfl) | rfl)) trivial rfl ?_
       refine ds_ro' (ro_fld_ptr k38_fl51_1 rfl (u2 rfl s2_12)) trivial rfl ?_
       refine ds_ro' (ro_eq (ro_ld_ptr k38_ty49 rfl mo0_9 up_h (by first | exact Nat.le_of_ble_eq_true rfl | omega | (simp only [lnS] <;> omega) | (simp <;> omega))) (by first | (simp only [packA_t, packA_f, iE, bE, setAt, cellsA, Value.cells, map_vc, map_vn, Nat.reduceAdd, qS] <;> rfl) | rfl)) trivial rfl ?_
       refine ds_ro' (ro_fld_ptr k38_fl51_1 rfl (u4 rfl s3_12)) trivial rfl ?_
       refine ds_ro' (ro_eq (ro_ld_ptr k38_ty49 rfl mo1_9 up_h (by first | exact Nat.le_of_ble_eq_true rfl | omega | (simp only [lnS] <;> omega) | (simp <;> omega))) (by first | (simp only [packA_t, packA_f, iE, bE, setAt, cellsA, Value.cells, map_vc, map_vn, Nat.reduceAdd, qS] <;> rfl) | rfl)) trivial rfl ?_
       refine ds_ro' (ro_lit k38_sl134 (evP_cons (u2 rfl up_h) (evP_cons up_h evP_nil)) rfl rfl rfl rfl) trivial rfl ?_
       refine ds_ro' (ro_call (evL_cons up_h evL_nil) rfl (concat_ok [ps, qs] (by simp) (by simp; omega)) k38_hcf68) trivial rfl ?_
       refine ds_ro' (ro_build (evP_cons (u2 rfl (u4 rfl up_h)) (evP_cons up_h evP_nil)) k38_bz51 k38_bu51 k38_bp51 rfl) trivial rfl ?_
       refine ds_nil ?_
       refine al_stm (st_store (up_m rfl (u8 rfl s4_12)) up_h rfl rfl mo2_9 k38_sz51 rfl (by first | exact Nat.le_of_ble_eq_true rfl | omega | (simp only [lnS] <;> omega) | (simp <;> omega))) trivial rfl (fun m_16 hm_16 => ?_)
       have mo2_16 := m_set hm_16 mo2_9
       (try simp only [packA_t, packA_f, iE, bE, setAt, cellsA, Value.cells, map_vc, map_vn, Nat.reduceAdd, qS] at mo2_16)
       have mo4_16 := m_set_o hm_16 mo4_9 (by decide)
       have mo3_16 := m_set_o hm_16 mo3_9 (by decide)
       have mo1_16 := m_set_o hm_16 mo1_9 (by decide)
       have mo0_16 := m_set_o hm_16 mo0_9 (by decide)
       have ml_16 := m_set_l hm_16 ml_9
       clear hm_16 mo4_9 mo3_9 mo2_9 mo1_9 mo0_9
       refine al_ro' (ro_assign ev_c) trivial rfl ?_
       refine al_end (fun e_17 he_17 => ?_)
       have s4_17 := ef 4 he_17 (up_m rfl (up_n (up_m rfl (u8 rfl s4_12))))
       have s5_17 := ef 5 he_17 up_h
       clear he_17 s2_12 s34_12 s3_12 s4_12 s7_12
       refine then_n ?_
       refine aw_ret ?_
       refine ret2 (.inr rfl) (by kernel_rfl) (resV_cell s4_17 mo2_16 k38_ty51 (by first | exact Nat.le_of_ble_eq_true rfl | omega | (simp only [lnS] <;> omega) | (simp <;> omega)) (by simp)) (resV_tmp s5_17) (vw_r (.ro _ rfl)) (.ro _ rfl) ?_
       clear s4_17 s5_17 mo2_16 mo4_16 mo3_16 mo1_16 mo0_16 ml_16
       (rw [hz, if_pos rfl, if_pos rfl]; simp [trA]))
end Go.Proofs.Ytgiiedpambimoaa
