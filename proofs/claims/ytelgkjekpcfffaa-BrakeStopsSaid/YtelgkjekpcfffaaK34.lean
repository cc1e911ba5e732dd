/- Contracts of chapter 5: all stops behind a post; which of them a train reaches. No conditions on a program. -/
import Derived.Test.YtelgkjekpcfffaaK8
import Derived.Test.YtelgkjekpcfffaaA14
namespace Go.Proofs.Ytelgkjekpcfffaa
open Go Go.RowKit Go.Proofs
set_option linter.unusedSimpArgs false
set_option linter.unusedVariables false
theorem k34_az30 : (Try.prog.info? 30).bind (·.zero) = some (.slice none 0 0) := by kernel_rfl
theorem k34_fl101_0 : FldIs Try.prog 101 0 0 true 2 := by unfold FldIs; kernel_rfl
theorem k34_fl103_0 : FldIs Try.prog 103 0 0 true 2 := by unfold FldIs; kernel_rfl
theorem k34_fl24_1 : FldIs Try.prog 24 1 1 false 1 := by unfold FldIs; kernel_rfl
theorem k34_fl42_0 : FldIs Try.prog 42 0 0 false 1 := by unfold FldIs; kernel_rfl
theorem k34_fl66_3 : FldIs Try.prog 66 3 3 false 1 := by unfold FldIs; kernel_rfl
theorem k34_hcf72 : ∀ args w, (callFunc 72 args).run Try.prog w = .ok (.enter 72 args) w := fun _ _ => by kernel_rfl
theorem k34_hcf87 : ∀ args w, (callFunc 87 args).run Try.prog w = .ok (.enter 87 args) w := fun _ _ => by kernel_rfl
theorem k34_hcf98 : ∀ args w, (callFunc 98 args).run Try.prog w = .ok (.enter 98 args) w := fun _ _ => by kernel_rfl
theorem k34_sl22 : SlIs Try.prog 22 66 4 32 (.agg #[.int .i64 0, .int .i64 0, .int .i64 0, .bool false]) := ⟨by kernel_rfl, by kernel_rfl, by kernel_rfl⟩
theorem k34_sl30 : SlIs Try.prog 30 3 1 8 (.int .i64 0) := ⟨by kernel_rfl, by kernel_rfl, by kernel_rfl⟩
theorem k34_sz30 : (Try.prog.info? 30).map (·.size) = some 1 := by kernel_rfl
theorem k34_ty103 : TyIs Try.prog 103 true 5 := ⟨by kernel_rfl, by kernel_rfl⟩
theorem k34_ty22 : TyIs Try.prog 22 false 1 := ⟨by kernel_rfl, by kernel_rfl⟩
theorem k34_ty3 : TyIs Try.prog 3 false 1 := ⟨by kernel_rfl, by kernel_rfl⟩
theorem k34_ty30 : TyIs Try.prog 30 false 1 := ⟨by kernel_rfl, by kernel_rfl⟩
theorem k34_ty4 : TyIs Try.prog 4 false 1 := ⟨by kernel_rfl, by kernel_rfl⟩
theorem k34_ty42 : TyIs Try.prog 42 true 2 := ⟨by kernel_rfl, by kernel_rfl⟩

theorem filt_at {p : Nat → Bool} {i : Nat} (hp : p i = true) : ∀ {n : Nat}, i < n → ((List.range n).filter p)[((List.range i).filter p).length]? = some i
  | n + 1, hi => by
    rw [List.range_succ, List.filter_append]
    by_cases h : i = n
    · subst h
      rw [List.getElem?_append_right (Nat.le_refl _)]
      simp [hp]
    · have ih := filt_at hp (n := n) (by omega)
      rw [List.getElem?_append_left (List.getElem?_eq_some_iff.1 ih).1]; exact ih
theorem filt_succ {p : Nat → Bool} {i : Nat} : ((List.range (i + 1)).filter p).length = ((List.range i).filter p).length + if p i then 1 else 0 := by
  rw [List.range_succ, List.filter_append, List.length_append]
  cases h : p i <;> simp [h]
theorem filt_none {p : Nat → Bool} {i : Nat} (h : ∀ j, j < i → p j = false) : ((List.range i).filter p).length = 0 := by
  rw [List.length_eq_zero_iff, List.filter_eq_nil_iff]
  intro a ha
  have := h a (by simpa using ha)
  simp [this]
/-- A stop that is not ahead of a post. -/
def stB (ps : List Piece) (post : Int) (i : Nat) : Bool := decide (post ≤ i) && (ps.getD i default).leave
def stL (ps : List Piece) (post : Int) : List Nat := (List.range ps.length).filter (stB ps post)
def stY (ps : List Piece) (post : Int) : List (List AV) := (stL ps post).map fun (i : Nat) => [iA (i : Int)]
theorem stY_len (ps : List Piece) (post : Int) : (stY ps post).length = (stL ps post).length := by simp [stY]
theorem stY_at {ps : List Piece} {post j : Int} {i : Nat} (h0 : 0 ≤ post ∧ post ≤ j) (hj : j < ps.length) (hl : (ps.getD j.toNat default).leave = true) (hi : i = ((List.range j.toNat).filter (stB ps post)).length) : (stY ps post)[i]? = some [.v (.int .i64 j)] := by
  subst hi
  unfold stY stL
  rw [List.getElem?_map, filt_at (by unfold stB; rw [hl]; simp; omega) (by omega)]
  simp; omega
theorem stY_yes {ps : List Piece} {post j : Int} (h0 : 0 ≤ post ∧ post ≤ j) (hl : (ps.getD j.toNat default).leave = true) : ((List.range (j + 1).toNat).filter (stB ps post)).length = ((List.range j.toNat).filter (stB ps post)).length + 1 := by
  rw [show (j + 1).toNat = j.toNat + 1 by omega, filt_succ, if_pos]
  unfold stB; rw [hl]; simp; omega
theorem stY_no {ps : List Piece} {post j : Int} (h0 : 0 ≤ post ∧ post ≤ j) (hl : (ps.getD j.toNat default).leave = false) : ((List.range (j + 1).toNat).filter (stB ps post)).length = ((List.range j.toNat).filter (stB ps post)).length := by
  rw [show (j + 1).toNat = j.toNat + 1 by omega, filt_succ, if_neg]; rfl
  unfold stB; rw [hl]; simp
set_option maxRecDepth 100000 in
set_option maxHeartbeats 4000000 in
theorem stops1_gen (nm : ByteArray) (ps : List Piece) (b d v post : Int) (h0 : 0 ≤ post ∧ post ≤ ps.length) (hp : ps.length ≤ 1000000000) : GenOk Try.prog 98 [] [.ref [iA post], .ref [.v (.string nm), .row 4 (ps.map pE), iA b, iA d, iA v]] (stY ps post) := by
  have hz : ((List.range post.toNat).filter (stB ps post)).length = 0 := filt_none (fun j hj => by unfold stB; rw [decide_eq_false (by omega)]; rfl)
  refine gen_of (fn := Try.f98) 29 (by kernel_rfl) rfl (by kernel_rfl) (Nat.le_of_ble_eq_true rfl) (fun _ _ => ⟨.tuple #[], by kernel_rfl⟩) ?_
  intro lb_ e_0 hA
  have s0_0 : evA e_0 (.tmp 0) = _ := hA 0 _ rfl
  have s1_0 : evA e_0 (.tmp 1) = _ := hA 1 _ rfl
  have s2_0 : evA e_0 (.tmp 2) = _ := hA 2 _ rfl
  clear hA
  refine iw_seq ?_
  refine iw_text ?_
  refine il_ro (fun _ => (ro_eq (ro_ld_ref k34_ty3 rfl s1_0 (by first | exact Nat.le_of_ble_eq_true rfl | omega | (simp only [lnS] <;> omega) | (simp <;> omega))) (by first | (simp only [packA_t, packA_f, iE, bE, setAt, cellsA, Value.cells, map_vc, map_vn, Nat.reduceAdd, qS, pE] <;> rfl) | rfl))) trivial rfl ?_
  refine il_ro (fun _ => (ro_assign up_h)) trivial rfl ?_
  refine il_end (fun e_1 he_1 => ?_)
  have s0_1 := ef 0 he_1 (u2 rfl s0_0)
  have s2_1 := ef 2 he_1 (u2 rfl s2_0)
  have s4_1 := ef 4 he_1 up_h
  clear he_1 s0_0 s1_0 s2_0
  refine theni_n ?_
  refine iw_block ?_
  refine iw_loop (S := Int) (fun j e b i => (evA e (.tmp 4) = .v (.int .i64 j)) ∧ (evA e (.tmp 0) = evA e_1 (.tmp 0)) ∧ (evA e (.tmp 2) = evA e_1 (.tmp 2)) ∧ (b = true) ∧ (i = ((List.range j.toNat).filter (stB ps post)).length) ∧ ((post ≤ j ∧ j ≤ ps.length))) (fun j => (ps.length - j).toNat) _ ⟨s4_1, rfl, rfl, rfl, (by exact hz.symm), ?_⟩ ?_
  · (exact ⟨by omega, by omega⟩)
  · rintro j e_2 _ i_2 ⟨s4_2, k0_2, k2_2, rfl, hix, hinv⟩
    have s0_2 := k0_2.trans s0_1
    have s2_2 := k2_2.trans s2_1
    (have p1 := hinv.1; have p2 := hinv.2)
    refine iw_seq ?_
    refine iw_seq ?_
    refine iw_text ?_
    refine il_ro (fun _ => (ro_move s4_2)) trivial rfl ?_
    refine il_ro (fun _ => (ro_eq (ro_fld_ref k34_fl103_0 rfl (up_m rfl s2_2)) (by first | (simp only [packA_t, packA_f, iE, bE, setAt, cellsA, Value.cells, map_vc, map_vn, Nat.reduceAdd, qS, pE] <;> rfl) | rfl))) trivial rfl ?_
    refine il_ro (fun _ => (ro_eq (ro_fld_ref k34_fl101_0 rfl up_h) (by first | (simp only [packA_t, packA_f, iE, bE, setAt, cellsA, Value.cells, map_vc, map_vn, Nat.reduceAdd, qS, pE] <;> rfl) | rfl))) trivial rfl ?_
    refine il_ro (fun _ => (ro_eq (ro_fld_ref k34_fl24_1 rfl up_h) (by first | (simp only [packA_t, packA_f, iE, bE, setAt, cellsA, Value.cells, map_vc, map_vn, Nat.reduceAdd, qS, pE] <;> rfl) | rfl))) trivial rfl ?_
    refine il_ro (fun _ => (ro_eq (ro_ld_ref k34_ty22 rfl up_h (by first | exact Nat.le_of_ble_eq_true rfl | omega | (simp only [lnS] <;> omega) | (simp <;> omega))) (by first | (simp only [packA_t, packA_f, iE, bE, setAt, cellsA, Value.cells, map_vc, map_vn, Nat.reduceAdd, qS, pE] <;> rfl) | rfl))) trivial rfl ?_
    refine il_ro (fun _ => (ro_eq (ro_len_row up_h rfl k34_sl22.1) (by first | (simp only [lnS] <;> rfl) | rfl))) trivial rfl ?_
    refine il_ro (fun _ => (ro_lss (up_m rfl (u4 rfl up_h)) up_h)) trivial rfl ?_
    refine il_end (fun e_3 he_3 => ?_)
    have s0_3 := ef 0 he_3 (up_m rfl (u2 rfl (u4 rfl s0_2)))
    have s2_3 := ef 2 he_3 (up_m rfl (u2 rfl (u4 rfl s2_2)))
    have s4_3 := ef 4 he_3 (up_m rfl (u2 rfl (u4 rfl s4_2)))
    have s12_3 := ef 12 he_3 up_h
    clear he_3 s0_2 s2_2 s4_2
    refine theni_n ?_
    refine iw_case s12_3 (fun hq_4 => ?_) (fun hq_4 => ?_)
    · (first | replace hq_4 := bnt hq_4 | replace hq_4 := bnf hq_4 | replace hq_4 := bt hq_4 | replace hq_4 := bf hq_4 | replace hq_4 := bt' hq_4 | replace hq_4 := bf' hq_4 | skip)
      first
      | (cases hq_4; done) | (exfalso; omega)
      | (
         refine iw_skip ?_
         refine theni_n ?_
         refine iw_seq ?_
         refine iw_block ?_
         refine iw_seq ?_
         refine iw_text ?_
         refine il_ro (fun _ => (ro_eq (ro_fld_ref k34_fl103_0 rfl s2_3) (by first | (simp only [packA_t, packA_f, iE, bE, setAt, cellsA, Value.cells, map_vc, map_vn, Nat.reduceAdd, qS, pE] <;> rfl) | rfl))) trivial rfl ?_
         refine il_ro (fun _ => (ro_eq (ro_fld_ref k34_fl101_0 rfl up_h) (by first | (simp only [packA_t, packA_f, iE, bE, setAt, cellsA, Value.cells, map_vc, map_vn, Nat.reduceAdd, qS, pE] <;> rfl) | rfl))) trivial rfl ?_
         refine il_ro (fun _ => (ro_eq (ro_fld_ref k34_fl24_1 rfl up_h) (by first | (simp only [packA_t, packA_f, iE, bE, setAt, cellsA, Value.cells, map_vc, map_vn, Nat.reduceAdd, qS, pE] <;> rfl) | rfl))) trivial rfl ?_
         refine il_ro (fun _ => (ro_eq (ro_ld_ref k34_ty22 rfl up_h (by first | exact Nat.le_of_ble_eq_true rfl | omega | (simp only [lnS] <;> omega) | (simp <;> omega))) (by first | (simp only [packA_t, packA_f, iE, bE, setAt, cellsA, Value.cells, map_vc, map_vn, Nat.reduceAdd, qS, pE] <;> rfl) | rfl))) trivial rfl ?_
         refine il_ro (fun _ => (ro_move (u4 rfl s4_3))) trivial rfl ?_
         refine il_ro (fun _ => (ro_eq (ro_ix k34_sl22 (up_m rfl up_h) up_h (by first | decide | omega | (simp <;> omega)) (by first | (refine idx_map ?_; first | omega | (simp only [lnS]; omega)) | (refine idx_mapI ?_; first | omega | (simp only [lnS]; omega)) | (refine idx_mapN ?_; first | omega | (simp only [lnS]; omega)) | rfl)) (by first | (simp only [packA_t, packA_f, iE, bE, setAt, cellsA, Value.cells, map_vc, map_vn, Nat.reduceAdd, qS, pE] <;> rfl) | rfl))) trivial rfl ?_
         refine il_ro (fun _ => (ro_eq (ro_fld_ref k34_fl66_3 rfl up_h) (by first | (simp only [packA_t, packA_f, iE, bE, setAt, cellsA, Value.cells, map_vc, map_vn, Nat.reduceAdd, qS, pE] <;> rfl) | rfl))) trivial rfl ?_
         refine il_ro (fun _ => (ro_eq (ro_ld_ref k34_ty4 rfl up_h (by first | exact Nat.le_of_ble_eq_true rfl | omega | (simp only [lnS] <;> omega) | (simp <;> omega))) (by first | (simp only [packA_t, packA_f, iE, bE, setAt, cellsA, Value.cells, map_vc, map_vn, Nat.reduceAdd, qS, pE] <;> rfl) | rfl))) trivial rfl ?_
         refine il_ro (fun _ => (ro_move up_h)) trivial rfl ?_
         refine il_case up_h (fun hb_5 hq_5 => ?_) (fun hb_5 hq_5 => ?_)
         · (first | replace hq_5 := bnt hq_5 | replace hq_5 := bnf hq_5 | replace hq_5 := bt hq_5 | replace hq_5 := bf hq_5 | replace hq_5 := bt' hq_5 | replace hq_5 := bf' hq_5 | skip)
           first
           | (cases hq_5; done) | (exfalso; omega)
           | (
              refine il_ro (fun _ => (ro_move (up_m rfl (u8 rfl s0_3)))) ⟨_, rfl, hb_5⟩ rfl ?_
              refine il_ro (fun _ => (ro_move (u2 rfl (u8 rfl s4_3)))) ⟨_, rfl, (up_m rfl hb_5)⟩ rfl ?_
              refine il_yield2 (up_m rfl up_h) (evL_cons up_h evL_nil) rfl ⟨_, rfl, (u2 rfl hb_5)⟩ rfl (by exact stY_at ⟨h0.1, p1⟩ (by omega) (by assumption) hix) ?_ ?_
              ·
                refine il_ro (fun _ => (ro_not up_h)) ⟨_, rfl, (up_m rfl (u2 rfl hb_5))⟩ rfl ?_
                refine il_ro (fun _ => (ro_pickT (u4 rfl hb_5) up_h)) trivial rfl ?_
                refine il_end (fun e_6 he_6 => ?_)
                have s0_6 := ef 0 he_6 (u2 rfl (u4 rfl (u8 rfl s0_3)))
                have s2_6 := ef 2 he_6 (u2 rfl (u4 rfl (u8 rfl s2_3)))
                have s4_6 := ef 4 he_6 (u2 rfl (u4 rfl (u8 rfl s4_3)))
                have s28_6 := ef 28 he_6 up_h
                clear he_6 hb_5 s0_3 s12_3 s2_3 s4_3
                refine theni_n ?_
                refine iw_false s28_6 ?_
                refine iw_skip ?_
                refine blocki_n ?_
                refine theni_n ?_
                refine iw_text ?_
                refine il_ro (fun _ => (ro_move s4_6)) trivial rfl ?_
                first | (refine il_ro (fun _ => (ro_add' up_h ev_c ?_)) trivial rfl ?_; · (unfold In64; omega)) | refine il_ro (fun _ => (ro_add up_h ev_c)) trivial rfl ?_
                refine il_ro (fun _ => (ro_assign up_h)) trivial rfl ?_
                refine il_end (fun e_8 he_8 => ?_)
                have s0_8 := ef 0 he_8 (up_m rfl (u2 rfl s0_6))
                have s2_8 := ef 2 he_8 (up_m rfl (u2 rfl s2_6))
                have s4_8 := ef 4 he_8 up_h
                clear he_8 s0_6 s28_6 s2_6 s4_6
                refine theni_n ?_
                refine ⟨_, ⟨s4_8, (s0_8.trans s0_1.symm), (s2_8.trans s2_1.symm), rfl, (by first | (rw [hix, stY_yes ⟨h0.1, hinv.1⟩ (by assumption)]; done) | (rw [hix, stY_no ⟨h0.1, hinv.1⟩ (by assumption)]; done)), ?_⟩, ?_⟩
                · (exact ⟨by omega, by omega⟩)
                · ((try dsimp only); omega)
              ·
                refine il_ro (fun _ => (ro_not up_h)) ⟨_, rfl, (up_m rfl (u2 rfl hb_5))⟩ rfl ?_
                refine il_ro (fun _ => (ro_pickT (u4 rfl hb_5) up_h)) trivial rfl ?_
                refine il_end (fun e_9 he_9 => ?_)
                have s0_9 := ef 0 he_9 (u2 rfl (u4 rfl (u8 rfl s0_3)))
                have s2_9 := ef 2 he_9 (u2 rfl (u4 rfl (u8 rfl s2_3)))
                have s4_9 := ef 4 he_9 (u2 rfl (u4 rfl (u8 rfl s4_3)))
                have s28_9 := ef 28 he_9 up_h
                clear he_9 hb_5 s0_3 s12_3 s2_3 s4_3
                refine theni_n ?_
                refine iw_true s28_9 ?_
                refine iw_ret ?_
                refine blocki_r ?_
                refine theni_r ?_
                refine theni_r ?_
                refine blocki_r ?_
                refine gen_r (fun hb_ => (by cases hb_)))
         · (first | replace hq_5 := bnt hq_5 | replace hq_5 := bnf hq_5 | replace hq_5 := bt hq_5 | replace hq_5 := bf hq_5 | replace hq_5 := bt' hq_5 | replace hq_5 := bf' hq_5 | skip)
           first
           | (cases hq_5; done) | (exfalso; omega)
           | (
              refine il_skip ⟨_, rfl, .inl hb_5⟩ rfl ?_
              refine il_skip ⟨_, rfl, .inl (up_m rfl hb_5)⟩ rfl ?_
              refine il_skip ⟨_, rfl, .inl (u2 rfl hb_5)⟩ rfl ?_
              refine il_skip ⟨_, rfl, .inl (up_m rfl (u2 rfl hb_5))⟩ rfl ?_
              refine il_ro (fun _ => (ro_pickF (u4 rfl hb_5) ev_c)) trivial rfl ?_
              refine il_end (fun e_11 he_11 => ?_)
              have s0_11 := ef 0 he_11 (u2 rfl (u4 rfl (u8 rfl s0_3)))
              have s2_11 := ef 2 he_11 (u2 rfl (u4 rfl (u8 rfl s2_3)))
              have s4_11 := ef 4 he_11 (u2 rfl (u4 rfl (u8 rfl s4_3)))
              have s28_11 := ef 28 he_11 up_h
              clear he_11 hb_5 s0_3 s12_3 s2_3 s4_3
              refine theni_n ?_
              refine iw_false s28_11 ?_
              refine iw_skip ?_
              refine blocki_n ?_
              refine theni_n ?_
              refine iw_text ?_
              refine il_ro (fun _ => (ro_move s4_11)) trivial rfl ?_
              first | (refine il_ro (fun _ => (ro_add' up_h ev_c ?_)) trivial rfl ?_; · (unfold In64; omega)) | refine il_ro (fun _ => (ro_add up_h ev_c)) trivial rfl ?_
              refine il_ro (fun _ => (ro_assign up_h)) trivial rfl ?_
              refine il_end (fun e_13 he_13 => ?_)
              have s0_13 := ef 0 he_13 (up_m rfl (u2 rfl s0_11))
              have s2_13 := ef 2 he_13 (up_m rfl (u2 rfl s2_11))
              have s4_13 := ef 4 he_13 up_h
              clear he_13 s0_11 s28_11 s2_11 s4_11
              refine theni_n ?_
              refine ⟨_, ⟨s4_13, (s0_13.trans s0_1.symm), (s2_13.trans s2_1.symm), rfl, (by first | (rw [hix, stY_yes ⟨h0.1, hinv.1⟩ (by assumption)]; done) | (rw [hix, stY_no ⟨h0.1, hinv.1⟩ (by assumption)]; done)), ?_⟩, ?_⟩
              · (exact ⟨by omega, by omega⟩)
              · ((try dsimp only); omega)))
    · (first | replace hq_4 := bnt hq_4 | replace hq_4 := bnf hq_4 | replace hq_4 := bt hq_4 | replace hq_4 := bf hq_4 | replace hq_4 := bt' hq_4 | replace hq_4 := bf' hq_4 | skip)
      first
      | (cases hq_4; done) | (exfalso; omega)
      | (
         refine iw_exit ?_
         refine theni_x ?_
         refine theni_x ?_
         refine blocki_hit ?_
         refine gen_n (fun hb_ => ?_)
         (first | (rw [hix, stY_len]; unfold stL; rw [show j.toNat = ps.length by omega]; done)))
set_option maxRecDepth 100000 in
set_option maxHeartbeats 4000000 in
theorem stops_ok (nm : ByteArray) (ps : List Piece) (b d v post : Int) : FnOk Try.prog 87 [riA nm ps b d v, iA post] (fun q => q = .clo (.func 98) [] [.ref [iA post], .ref [.v (.string nm), .row 4 (ps.map pE), iA b, iA d, iA v]]) := by
  refine fnOk_of (fn := Try.f87) 6 (by kernel_rfl) rfl (by kernel_rfl) (Nat.le_of_ble_eq_true rfl) ?_
  intro e_0 m_0 hA hm_0
  have s0_0 : evA e_0 (.tmp 0) = _ := hA 0 _ rfl
  have s1_0 : evA e_0 (.tmp 1) = _ := hA 1 _ rfl
  have ml_0 : m_0.length = 0 := by rw [hm_0]; rfl
  clear hA hm_0
  refine aw_seq ?_
  refine aw_text (by kernel_rfl) ?_
  refine al_stm (st_box s0_0 rfl ml_0) trivial rfl (fun m_1 hm_1 => ?_)
  have mo0_1 := m_push hm_1 ml_0
  (try simp only [packA_t, packA_f, iE, bE, setAt, cellsA, Value.cells, map_vc, map_vn, Nat.reduceAdd, qS] at mo0_1)
  have ml_1 := m_push_l hm_1 ml_0
  have ml_1 : _ = 1 := ml_1
  clear hm_1
  refine al_stm (st_box (up_m rfl s1_0) rfl ml_1) trivial rfl (fun m_2 hm_2 => ?_)
  have mo1_2 := m_push hm_2 ml_1
  (try simp only [packA_t, packA_f, iE, bE, setAt, cellsA, Value.cells, map_vc, map_vn, Nat.reduceAdd, qS] at mo1_2)
  have mo0_2 := m_push_o hm_2 mo0_1
  have ml_2 := m_push_l hm_2 ml_1
  have ml_2 : _ = 2 := ml_2
  clear hm_2 mo0_1
  refine al_ro' (ro_assign ev_c) trivial rfl ?_
  refine al_end (fun e_3 he_3 => ?_)
  have s2_3 := ef 2 he_3 (u2 rfl up_h)
  have s3_3 := ef 3 he_3 (up_m rfl up_h)
  clear he_3 s0_0 s1_0
  refine then_n ?_
  refine aw_seq ?_
  refine aw_text (by kernel_rfl) ?_
  refine al_ro' (ro_makeFunc evL_nil (evL_cons s3_3 (evL_cons s2_3 evL_nil))) trivial rfl ?_
  refine al_ro' (ro_assign up_h) trivial rfl ?_
  refine al_end (fun e_4 he_4 => ?_)
  have s4_4 := ef 4 he_4 up_h
  clear he_4 s2_3 s3_3
  refine then_n ?_
  refine aw_ret ?_
  refine ret1 (.inr rfl) (by kernel_rfl) (resV_tmp s4_4) (vw_clo vwl_nil (vwl_cons (vw_ptr mo1_2 (vwl_cons (.ro _ rfl) vwl_nil)) (vwl_cons (vw_ptr mo0_2 (vwl_cons (.ro _ rfl) (vwl_cons (.ro _ rfl) (vwl_cons (.ro _ rfl) (vwl_cons (.ro _ rfl) (vwl_cons (.ro _ rfl) vwl_nil)))))) vwl_nil))) ?_
  clear s4_4 mo1_2 mo0_2 ml_2
  rfl
theorem stY_one {ps : List Piece} {post : Int} : ∀ y ∈ stY ps post, y.length = 1 := by
  intro y hy
  unfold stY at hy
  obtain ⟨s, _, rfl⟩ := List.mem_map.1 hy
  rfl
theorem stY_of {ps : List Piece} {post : Int} {i : Nat} {a : AV} (h : (stY ps post)[i]? = some [a]) : ∃ s : Nat, (stL ps post)[i]? = some s ∧ a = iA (s : Int) ∧ post ≤ s ∧ s < ps.length ∧ (ps.getD s default).leave = true := by
  unfold stY at h
  rw [List.getElem?_map] at h
  cases hs : (stL ps post)[i]? with
  | none => rw [hs] at h; cases h
  | some s =>
    rw [hs] at h
    simp at h
    have hm := List.mem_of_getElem? hs
    unfold stL at hm
    rw [List.mem_filter] at hm
    obtain ⟨h1, h2⟩ := hm
    unfold stB at h2
    simp at h1 h2
    exact ⟨s, rfl, h.symm, h2.1, h1, h2.2⟩
/-- The stops that a train reaches, of these. -/
def rcP (ps : List Piece) (b d post sq : Int) (l : List Nat) : List Int := (l.filter fun (s : Nat) => decide ((runW ps b d (s : Int) post sq).2 = 0)).map fun (n : Nat) => (n : Int)
def rcW (ps : List Piece) (b d post sq : Int) : List Int := rcP ps b d post sq (stL ps post)
theorem rcP_yes {ps : List Piece} {b d post sq : Int} {l : List Nat} {i s : Nat} (h : l[i]? = some s) (hr : (runW ps b d (s : Int) post sq).2 = 0) : rcP ps b d post sq (l.take (i + 1)) = rcP ps b d post sq (l.take i) ++ [(s : Int)] := by
  unfold rcP
  rw [List.take_add_one, h]
  simp [List.filter_append, hr]
theorem rcP_no {ps : List Piece} {b d post sq : Int} {l : List Nat} {i s : Nat} (h : l[i]? = some s) (hr : ¬ (runW ps b d (s : Int) post sq).2 = 0) : rcP ps b d post sq (l.take (i + 1)) = rcP ps b d post sq (l.take i) := by
  unfold rcP
  rw [List.take_add_one, h]
  simp [List.filter_append, hr]
theorem rcP_len {ps : List Piece} {b d post sq : Int} {l : List Nat} : (rcP ps b d post sq l).length ≤ l.length := by
  unfold rcP
  rw [List.length_map]; exact List.length_filter_le _ _
theorem stL_len (ps : List Piece) (post : Int) : (stL ps post).length ≤ ps.length := by
  unfold stL
  have := List.length_filter_le (stB ps post) (List.range ps.length)
  simpa using this
set_option maxRecDepth 100000 in
set_option maxHeartbeats 4000000 in
theorem reached_ok (nm : ByteArray) (ps : List Piece) (hok : trackR ps) (b d v : Int) (hb : sysR b d v) (post sq : Int) (h0 : 0 ≤ post ∧ post ≤ ps.length) (hsq : 0 ≤ sq ∧ sq ≤ 20000000000) : FnOk Try.prog 86 [riA nm ps b d v, .agg [iA post, iA sq]] (fun q => q = .row 1 ((rcW ps b d post sq).map iE)) := by
  obtain ⟨q1, q2, q3⟩ := id hok
  have hsl := stL_len ps post
  refine fnOk_of (fn := Try.f86) 28 (by kernel_rfl) rfl (by kernel_rfl) (Nat.le_of_ble_eq_true rfl) ?_
  intro e_0 m_0 hA hm_0
  have s0_0 : evA e_0 (.tmp 0) = _ := hA 0 _ rfl
  have s1_0 : evA e_0 (.tmp 1) = _ := hA 1 _ rfl
  have ml_0 : m_0.length = 0 := by rw [hm_0]; rfl
  clear hA hm_0
  refine aw_seq ?_
  refine aw_text (by kernel_rfl) ?_
  refine al_stm (st_box s0_0 rfl ml_0) trivial rfl (fun m_1 hm_1 => ?_)
  have mo0_1 := m_push hm_1 ml_0
  (try simp only [packA_t, packA_f, iE, bE, setAt, cellsA, Value.cells, map_vc, map_vn, Nat.reduceAdd, qS, one_iE, app_m] at mo0_1)
  have ml_1 := m_push_l hm_1 ml_0
  have ml_1 : _ = 1 := ml_1
  clear hm_1
  refine al_stm (st_box (up_m rfl s1_0) rfl ml_1) trivial rfl (fun m_2 hm_2 => ?_)
  have mo1_2 := m_push hm_2 ml_1
  (try simp only [packA_t, packA_f, iE, bE, setAt, cellsA, Value.cells, map_vc, map_vn, Nat.reduceAdd, qS, one_iE, app_m] at mo1_2)
  have mo0_2 := m_push_o hm_2 mo0_1
  have ml_2 := m_push_l hm_2 ml_1
  have ml_2 : _ = 2 := ml_2
  clear hm_2 mo0_1
  refine al_ro' (ro_assign ev_c) trivial rfl ?_
  refine al_end (fun e_3 he_3 => ?_)
  have s2_3 := ef 2 he_3 (u2 rfl up_h)
  have s3_3 := ef 3 he_3 (up_m rfl up_h)
  clear he_3 s0_0 s1_0
  refine then_n ?_
  refine aw_seq ?_
  refine aw_text (by kernel_rfl) ?_
  refine al_stm (st_alloc k34_az30 rfl ml_2) trivial rfl (fun m_4 hm_4 => ?_)
  have mo2_4 := m_push hm_4 ml_2
  (try simp only [packA_t, packA_f, iE, bE, setAt, cellsA, Value.cells, map_vc, map_vn, Nat.reduceAdd, qS, one_iE, app_m] at mo2_4)
  have mo1_4 := m_push_o hm_4 mo1_2
  have mo0_4 := m_push_o hm_4 mo0_2
  have ml_4 := m_push_l hm_4 ml_2
  have ml_4 : _ = 3 := ml_4
  clear hm_4 mo1_2 mo0_2
  refine al_end (fun e_5 he_5 => ?_)
  have s2_5 := ef 2 he_5 (up_m rfl s2_3)
  have s3_5 := ef 3 he_5 (up_m rfl s3_3)
  have s5_5 := ef 5 he_5 up_h
  clear he_5 s2_3 s3_3
  refine then_n ?_
  refine aw_seq ?_
  refine aw_seq ?_
  refine aw_text (by kernel_rfl) ?_
  refine al_ro' (ro_eq (ro_ld_ptr k34_ty103 rfl mo0_4 s2_5 (by first | exact Nat.le_of_ble_eq_true rfl | omega | (simp only [lnS] <;> omega) | (simp <;> omega))) (by first | (simp only [packA_t, packA_f, iE, bE, setAt, cellsA, Value.cells, map_vc, map_vn, Nat.reduceAdd, qS, one_iE, app_m] <;> rfl) | rfl)) trivial rfl ?_
  refine al_ro' (ro_fld_ptr k34_fl42_0 rfl (up_m rfl s3_5)) trivial rfl ?_
  refine al_ro' (ro_eq (ro_ld_ptr k34_ty3 rfl mo1_4 up_h (by first | exact Nat.le_of_ble_eq_true rfl | omega | (simp only [lnS] <;> omega) | (simp <;> omega))) (by first | (simp only [packA_t, packA_f, iE, bE, setAt, cellsA, Value.cells, map_vc, map_vn, Nat.reduceAdd, qS, one_iE, app_m] <;> rfl) | rfl)) trivial rfl ?_
  refine al_ro' (ro_call (evL_cons (u2 rfl up_h) (evL_cons up_h evL_nil)) rfl (stops_ok nm ps b d v post) k34_hcf87) trivial rfl ?_
  refine al_end (fun e_6 he_6 => ?_)
  have s2_6 := ef 2 he_6 (u4 rfl s2_5)
  have s3_6 := ef 3 he_6 (u4 rfl s3_5)
  have s5_6 := ef 5 he_6 (u4 rfl s5_5)
  have s12_6 := ef 12 he_6 up_h
  clear he_6 s2_5 s3_5 s5_5
  refine then_n ?_
  refine aw_block ?_
  refine aw_adoptC 3 1 0 mo2_4 rfl ml_4 (fun m0_7 m_7 h0_7 h1_7 => ?_)
  have mp3_7 := m_push h0_7 ml_4
  have mo3_7 := m_set_o h1_7 mp3_7 (by decide)
  have mp2_7 := m_push_o h0_7 mo2_4
  have mo2_7 := m_set h1_7 mp2_7
  simp only [List.set_cons_zero, List.set_cons_succ] at mo2_7
  have mp1_7 := m_push_o h0_7 mo1_4
  have mo1_7 := m_set_o h1_7 mp1_7 (by decide)
  have mp0_7 := m_push_o h0_7 mo0_4
  have mo0_7 := m_set_o h1_7 mp0_7 (by decide)
  have mq_7 := m_push_l h0_7 ml_4
  have ml_7 : _ = 4 := m_set_l h1_7 mq_7
  clear h0_7 h1_7 mq_7 mp3_7 mp2_7 mp1_7 mp0_7
  refine aw_range1 s12_6 (stops1_gen nm ps b d v post h0 (by omega)) k34_hcf98 (by exact stY_one) (Nat.le_of_ble_eq_true rfl) (fun i mem => ∃ s : (Nat × List Int), match s with | ⟨k, xs⟩ => (mem[2]? = some (.box 30 [.own k])) ∧ (mem[k]? = some (.row 3 1 (xs.map iE))) ∧ (mem[1]? = m_7[1]?) ∧ (mem[0]? = m_7[0]?) ∧ (∃ n, mem.length = n ∧ 4 ≤ n) ∧ ((3 ≤ k ∧ xs = rcP ps b d post sq ((stL ps post).take i)))) ⟨⟨_, []⟩, mo2_7, mo3_7, rfl, rfl, ⟨_, ml_7, by omega⟩, ?_⟩ ?_ ?_
  · (exact ⟨by omega, by simp [rcP]⟩)
  · rintro i_8 y0_8 m_8 hy_8 ⟨⟨k, xs⟩, mo2_8, mok_8, mk1_8, mk0_8, ⟨n_8, ml_8, hn_8⟩, hinv⟩
    (obtain ⟨p1, p2⟩ := hinv; obtain ⟨s, hs, rfl, s1, s2, s3⟩ := stY_of hy_8; have hxl : xs.length ≤ 1000 := (by rw [p2]; have := rcP_len (ps := ps) (b := b) (d := d) (post := post) (sq := sq) (l := (stL ps post).take i_8); have := List.length_take_le' i_8 (stL ps post); omega))
    have mo1_8 := mk1_8.trans mo1_7
    have mo0_8 := mk0_8.trans mo0_7
    refine aw_env (fun e_8 he_8 => ?_)
    have s2_8 := ef 2 he_8 (up_m rfl s2_6)
    have s3_8 := ef 3 he_8 (up_m rfl s3_6)
    have s5_8 := ef 5 he_8 (up_m rfl s5_6)
    have s12_8 := ef 12 he_8 (up_m rfl s12_6)
    have s13_8 := ef 13 he_8 up_h
    clear he_8
    refine aw_text (by kernel_rfl) ?_
    refine al_ro' (ro_assign s13_8) trivial rfl ?_
    refine al_end (fun e_9 he_9 => ?_)
    have s2_9 := ef 2 he_9 (up_m rfl s2_8)
    have s3_9 := ef 3 he_9 (up_m rfl s3_8)
    have s5_9 := ef 5 he_9 (up_m rfl s5_8)
    have s6_9 := ef 6 he_9 up_h
    clear he_9 s12_8 s13_8 s2_8 s3_8 s5_8
    refine fallb_n ?_
    refine aw_block ?_
    refine aw_seq ?_
    refine aw_text (by kernel_rfl) ?_
    refine al_ro' (ro_eq (ro_ld_ptr k34_ty103 rfl mo0_8 s2_9 (by first | exact Nat.le_of_ble_eq_true rfl | omega | (simp only [lnS] <;> omega) | (simp <;> omega))) (by first | (simp only [packA_t, packA_f, iE, bE, setAt, cellsA, Value.cells, map_vc, map_vn, Nat.reduceAdd, qS, one_iE, app_m] <;> rfl) | rfl)) trivial rfl ?_
    refine al_ro' (ro_eq (ro_ld_ptr k34_ty42 rfl mo1_8 (up_m rfl s3_9) (by first | exact Nat.le_of_ble_eq_true rfl | omega | (simp only [lnS] <;> omega) | (simp <;> omega))) (by first | (simp only [packA_t, packA_f, iE, bE, setAt, cellsA, Value.cells, map_vc, map_vn, Nat.reduceAdd, qS, one_iE, app_m] <;> rfl) | rfl)) trivial rfl ?_
    refine al_ro' (ro_move (u2 rfl s6_9)) trivial rfl ?_
    refine al_ro' (ro_call (evL_cons (u2 rfl up_h) (evL_cons (up_m rfl up_h) (evL_cons up_h evL_nil))) rfl (run_ok nm ps hok b d v hb post sq s h0.1 (by omega) (by omega) hsq) k34_hcf72) trivial rfl ?_
    refine al_ro' (ro_move up_h) trivial rfl ?_
    refine al_ro' (ro_extract up_h rfl) trivial rfl ?_
    refine al_ro' (ro_extract (up_m rfl up_h) rfl) trivial rfl ?_
    refine al_ro' (ro_assign (up_m rfl up_h)) trivial rfl ?_
    refine al_ro' (ro_assign (up_m rfl up_h)) trivial rfl ?_
    refine al_end (fun e_10 he_10 => ?_)
    have s5_10 := ef 5 he_10 (up_m rfl (u8 rfl s5_9))
    have s6_10 := ef 6 he_10 (up_m rfl (u8 rfl s6_9))
    have s8_10 := ef 8 he_10 up_h
    clear he_10 s2_9 s3_9 s5_9 s6_9
    refine then_n ?_
    refine aw_seq ?_
    refine aw_text (by kernel_rfl) ?_
    refine al_ro' (ro_move s8_10) trivial rfl ?_
    refine al_ro' (ro_eql up_h ev_c) trivial rfl ?_
    refine al_end (fun e_11 he_11 => ?_)
    have s5_11 := ef 5 he_11 (u2 rfl s5_10)
    have s6_11 := ef 6 he_11 (u2 rfl s6_10)
    have s22_11 := ef 22 he_11 up_h
    clear he_11 s5_10 s6_10 s8_10
    refine then_n ?_
    refine aw_case s22_11 (fun hq_12 => ?_) (fun hq_12 => ?_)
    · (first | replace hq_12 := bnt hq_12 | replace hq_12 := bnf hq_12 | replace hq_12 := bt hq_12 | replace hq_12 := bf hq_12 | replace hq_12 := bt' hq_12 | replace hq_12 := bf' hq_12 | skip)
      first
      | (cases hq_12; done) | (exfalso; omega)
      | (
         refine aw_text (by kernel_rfl) ?_
         refine al_ro' (ro_eq (ro_ld_ptr k34_ty30 rfl mo2_8 s5_11 (by first | exact Nat.le_of_ble_eq_true rfl | omega | (simp only [lnS] <;> omega) | (simp <;> omega))) (by first | (simp only [packA_t, packA_f, iE, bE, setAt, cellsA, Value.cells, map_vc, map_vn, Nat.reduceAdd, qS, one_iE, app_m] <;> rfl) | rfl)) trivial rfl ?_
         refine al_ro' (ro_move (up_m rfl s6_11)) trivial rfl ?_
         refine al_ro' (ro_lit k34_sl30 (evP_cons up_h evP_nil) rfl rfl rfl rfl) trivial rfl ?_
         refine al_stm (st_app k34_sl30 rfl ml_8 mok_8 (u2 rfl up_h) up_h (by first | rfl | (simp [oneA]; done)) (by first | omega | (simp only [lnS] <;> omega) | (simp <;> omega))) trivial rfl (fun m_13 hm_13 => ?_)
         have mon_8_13 := m_swap hm_13 ml_8
         (try simp only [packA_t, packA_f, iE, bE, setAt, cellsA, Value.cells, map_vc, map_vn, Nat.reduceAdd, qS, one_iE, app_m] at mon_8_13)
         have mo2_13 := m_swap_o hm_13 mo2_8 (by omega)
         have mo1_13 := m_swap_o hm_13 mo1_8 (by omega)
         have mo0_13 := m_swap_o hm_13 mo0_8 (by omega)
         have ml_13 := m_swap_l hm_13 ml_8
         clear hm_13 mo2_8 mok_8 mo1_8 mo0_8
         refine al_stm (st_store_own (u4 rfl s5_11) up_h mo2_13 mon_8_13 k34_sz30 (by first | exact Nat.le_of_ble_eq_true rfl | omega | (simp only [lnS] <;> omega) | (simp <;> omega))) trivial rfl (fun m_14 hm_14 => ?_)
         have mo2_14 := m_set hm_14 mo2_13
         (try simp only [packA_t, packA_f, iE, bE, setAt, cellsA, Value.cells, map_vc, map_vn, Nat.reduceAdd, qS, one_iE, app_m] at mo2_14)
         have mon_8_14 := m_set_o hm_14 mon_8_13 (by omega)
         have mo1_14 := m_set_o hm_14 mo1_13 (by decide)
         have mo0_14 := m_set_o hm_14 mo0_13 (by decide)
         have ml_14 := m_set_l hm_14 ml_13
         clear hm_14 mon_8_13 mo2_13 mo1_13 mo0_13
         refine al_end (fun e_15 he_15 => ?_)
         have s5_15 := ef 5 he_15 (up_n (u4 rfl s5_11))
         clear he_15 s22_11 s5_11 s6_11
         refine block_n ?_
         refine rnd_n ⟨⟨_, _⟩, mo2_14, mon_8_14, (mo1_14.trans mo1_7.symm), (mo0_14.trans mo0_7.symm), ⟨_, ml_14, by omega⟩, ?_⟩
         (first | exact ⟨by omega, by rw [p2, rcP_yes hs (by assumption)]⟩ | exact ⟨by omega, by rw [p2, rcP_no hs (by assumption)]⟩))
    · (first | replace hq_12 := bnt hq_12 | replace hq_12 := bnf hq_12 | replace hq_12 := bt hq_12 | replace hq_12 := bf hq_12 | replace hq_12 := bt' hq_12 | replace hq_12 := bf' hq_12 | skip)
      first
      | (cases hq_12; done) | (exfalso; omega)
      | (
         refine aw_skip ?_
         refine block_n ?_
         refine rnd_n ⟨⟨_, _⟩, mo2_8, mok_8, (mo1_8.trans mo1_7.symm), (mo0_8.trans mo0_7.symm), ⟨_, ml_8, by omega⟩, ?_⟩
         (first | exact ⟨by omega, by rw [p2, rcP_yes hs (by assumption)]⟩ | exact ⟨by omega, by rw [p2, rcP_no hs (by assumption)]⟩))
  · rintro m_8 ⟨⟨k, xs⟩, mo2_8, mok_8, mk1_8, mk0_8, ⟨n_8, ml_8, hn_8⟩, hinv⟩
    have mo1_8 := mk1_8.trans mo1_7
    have mo0_8 := mk0_8.trans mo0_7
    (obtain ⟨p1, p2⟩ := hinv)
    refine block_n ?_
    refine then_n ?_
    refine aw_seq ?_
    refine aw_text (by kernel_rfl) ?_
    refine al_ro' (ro_eq (ro_ld_ptr k34_ty30 rfl mo2_8 s5_6 (by first | exact Nat.le_of_ble_eq_true rfl | omega | (simp only [lnS] <;> omega) | (simp <;> omega))) (by first | (simp only [packA_t, packA_f, iE, bE, setAt, cellsA, Value.cells, map_vc, map_vn, Nat.reduceAdd, qS, one_iE, app_m] <;> rfl) | rfl)) trivial rfl ?_
    refine al_ro' (ro_assign up_h) trivial rfl ?_
    refine al_end (fun e_16 he_16 => ?_)
    have s4_16 := ef 4 he_16 up_h
    clear he_16 s12_6 s2_6 s3_6 s5_6
    refine then_n ?_
    refine aw_ret ?_
    refine ret1 (.inr rfl) (by kernel_rfl) (resV_tmp s4_16) (.own _ _ _ _ mok_8) ?_
    clear s4_16 mo2_8 mok_8 mo1_8 mo0_8 ml_8
    (rw [p2, stY_len, List.take_length]; rfl)
end Go.Proofs.Ytelgkjekpcfffaa
