/- Texts of this claim, one behind the other: lemmas for the statement. -/
import Derived.Test.YtonjcljnpcmenaaM12
import Derived.Test.YtonjcljnpcmenaaT0
import Derived.Test.YtonjcljnpcmenaaM10
import Derived.Test.YtonjcljnpcmenaaA14
import Derived.Test.YtonjcljnpcmenaaM11
import Derived.Test.YtonjcljnpcmenaaM9
import Derived.Test.YtonjcljnpcmenaaM7
/- The law of chapter 5 that nothing is faster: the walk. No conditions on a program. -/
namespace Go.Proofs.Ytonjcljnpcmenaa
open Go Go.RowKit Go.Proofs
set_option linter.unusedSimpArgs false
set_option linter.unusedVariables false

def ckf (nm : ByteArray) (ps : List Piece) (b d v : Int) (xs : List Int) : Int := if cskE nm ps b d v xs = 0 then (cskW ps b v xs).2 else cskE nm ps b d v xs
theorem sqs_zero {ps : List Piece} {xs : List Int} (h1 : xs.length = ps.length + 1) (h2 : ∀ j : Nat, 0 ≤ xs.getD j default ∧ xs.getD j default ≤ 20000000000) : sqsE ps xs = 0 := by
  unfold sqsE
  rw [if_pos h1, if_pos]
  exact all_pre (n := xs.length) (fun j _ => by have := h2 j; simp only [withinB, Bool.and_eq_true, decide_eq_true_eq]; exact this) (Nat.le_refl _)
def rivB (nm : ByteArray) (ps : List Piece) (b d v e0 e1 : Int) (xs : List Int) : Prop := ckf nm ps b d v xs = 0 ∧ xs.length = ps.length + 1 ∧ xs.getD 0 default = e0 ∧ xs.getD ps.length default ≤ e1
instance (nm : ByteArray) (ps : List Piece) (b d v e0 e1 : Int) (xs : List Int) : Decidable (rivB nm ps b d v e0 e1 xs) := by unfold rivB; exact inferInstance
section
variable {nm : ByteArray} {ps : List Piece} (hs : nm.size ≤ 1000000000) (hp : ps.length ≤ 1000000000) {b d v : Int}
include hs hp
theorem fastest0_ok {e0 e1 : Int} (h0 : firstE [(chk nm ps).2, sysE b d v] = 0) (he0 : 0 ≤ e0 ∧ e0 ≤ 20000000000) (he1 : 0 ≤ e1 ∧ e1 ≤ 20000000000) : FnOk Try.prog 61 [trA nm ps, syA b d v, .agg [iA e0, iA e1]] (fun q => q = .tuple [.row 1 ((fasW ps b v e0 e1).1.map iE), iA (fasW ps b v e0 e1).2]) := by
  have hf : fasE nm ps b d v e0 e1 = 0 := by
    unfold fasE
    rw [h0, show withinB e0 0 20000000000 = true by simpa [withinB] using he0, show withinB e1 0 20000000000 = true by simpa [withinB] using he1]; rfl
  refine (fastest_ok nm ps hs hp b d v e0 e1).mono fun q h => ?_
  rw [h, if_pos hf, if_pos hf]
end

end Go.Proofs.Ytonjcljnpcmenaa

/- Contracts of chapter 5: all stops behind a post; which of them a train reaches. No conditions on a program. -/
namespace Go.Proofs.Ytonjcljnpcmenaa
open Go Go.RowKit Go.Proofs
set_option linter.unusedSimpArgs false
set_option linter.unusedVariables false
theorem k34_az49 : (Try.prog.info? 49).bind (·.zero) = some (.slice none 0 0) := by kernel_rfl
theorem k34_hcf157 : ∀ args w, (callFunc 157 args).run Try.prog w = .ok (.enter 157 args) w := fun _ _ => by kernel_rfl
theorem k34_hcf167 : ∀ args w, (callFunc 167 args).run Try.prog w = .ok (.enter 167 args) w := fun _ _ => by kernel_rfl
theorem k34_sl49 : SlIs Try.prog 49 3 1 8 (.int .i64 0) := ⟨by kernel_rfl, by kernel_rfl, by kernel_rfl⟩
theorem k34_sl98 : SlIs Try.prog 98 104 4 32 (.agg #[.int .i64 0, .int .i64 0, .int .i64 0, .bool false]) := ⟨by kernel_rfl, by kernel_rfl, by kernel_rfl⟩
theorem k34_ty113 : TyIs Try.prog 113 true 2 := ⟨by kernel_rfl, by kernel_rfl⟩
theorem k34_ty173 : TyIs Try.prog 173 true 5 := ⟨by kernel_rfl, by kernel_rfl⟩
theorem k34_ty3 : TyIs Try.prog 3 false 1 := ⟨by kernel_rfl, by kernel_rfl⟩
theorem k34_ty4 : TyIs Try.prog 4 false 1 := ⟨by kernel_rfl, by kernel_rfl⟩
theorem k34_ty49 : TyIs Try.prog 49 false 1 := ⟨by kernel_rfl, by kernel_rfl⟩
theorem k34_ty98 : TyIs Try.prog 98 false 1 := ⟨by kernel_rfl, by kernel_rfl⟩

theorem filtK_at {p : Nat → Bool} {i : Nat} (hp : p i = true) : ∀ {n : Nat}, i < n → ((List.range n).filter p)[((List.range i).filter p).length]? = some i
  | n + 1, hi => by
    rw [List.range_succ, List.filter_append]
    by_cases h : i = n
    · subst h
      rw [List.getElem?_append_right (Nat.le_refl _)]
      simp [hp]
    · have ih := filtK_at hp (n := n) (by omega)
      rw [List.getElem?_append_left (List.getElem?_eq_some_iff.1 ih).1]; exact ih
theorem filtK_succ {p : Nat → Bool} {i : Nat} : ((List.range (i + 1)).filter p).length = ((List.range i).filter p).length + if p i then 1 else 0 := by
  rw [List.range_succ, List.filter_append, List.length_append]
  cases h : p i <;> simp [h]
theorem filt_none {p : Nat → Bool} {i : Nat} (h : ∀ j, j < i → p j = false) : ((List.range i).filter p).length = 0 := by
  rw [List.length_eq_zero_iff, List.filter_eq_nil_iff]
  intro a ha
  have := h a (by simpa using ha)
  simp [this]
/-- A stop that is not ahead of a post. -/
def stB (ps : List Piece) (post : Int) (i : Nat) : Bool := decide (post ≤ i) && (ps.getD i default).leave
def stL (ps : List Piece) (post : Int) : List Nat := (List.range ps.length).filter (stB ps post)
def stY (ps : List Piece) (post : Int) : List (List AV) := (stL ps post).map fun (i : Nat) => [iA (i : Int)]
theorem stY_len (ps : List Piece) (post : Int) : (stY ps post).length = (stL ps post).length := by simp [stY]
theorem stY_at {ps : List Piece} {post j : Int} {i : Nat} (h0 : 0 ≤ post ∧ post ≤ j) (hj : j < ps.length) (hl : (ps.getD j.toNat default).leave = true) (hi : i = ((List.range j.toNat).filter (stB ps post)).length) : (stY ps post)[i]? = some [.v (.int .i64 j)] := by
  subst hi
  unfold stY stL
  rw [List.getElem?_map, filtK_at (by unfold stB; rw [hl]; simp; omega) (by omega)]
  simp; omega
theorem stY_yes {ps : List Piece} {post j : Int} (h0 : 0 ≤ post ∧ post ≤ j) (hl : (ps.getD j.toNat default).leave = true) : ((List.range (j + 1).toNat).filter (stB ps post)).length = ((List.range j.toNat).filter (stB ps post)).length + 1 := by
  rw [show (j + 1).toNat = j.toNat + 1 by omega, filtK_succ, if_pos]
  unfold stB; rw [hl]; simp; omega
theorem stY_no {ps : List Piece} {post j : Int} (h0 : 0 ≤ post ∧ post ≤ j) (hl : (ps.getD j.toNat default).leave = false) : ((List.range (j + 1).toNat).filter (stB ps post)).length = ((List.range j.toNat).filter (stB ps post)).length := by
  rw [show (j + 1).toNat = j.toNat + 1 by omega, filtK_succ, if_neg]; rfl
  unfold stB; rw [hl]; simp
set_option maxRecDepth 100000 in
set_option maxHeartbeats 4000000 in
theorem stops1_gen (nm : ByteArray) (ps : List Piece) (b d v post : Int) (h0 : 0 ≤ post ∧ post ≤ ps.length) (hp : ps.length ≤ 1000000000) : GenOk Try.prog 167 [] [.ref [iA post], .ref [.v (.string nm), .row 4 (ps.map pE), iA b, iA d, iA v]] (stY ps post) := by
  have hz : ((List.range post.toNat).filter (stB ps post)).length = 0 := filt_none (fun j hj => by unfold stB; rw [decide_eq_false (by omega)]; rfl)
  refine gen_of (fn := Try.f167) 29 (by kernel_rfl) rfl (by kernel_rfl) (Nat.le_of_ble_eq_true rfl) (fun _ _ => ⟨.tuple #[], by kernel_rfl⟩) ?_
  intro lb_ e_0 hA
  have s0_0 : evA e_0 (.tmp 0) = _ := hA 0 _ rfl
  have s1_0 : evA e_0 (.tmp 1) = _ := hA 1 _ rfl
  have s2_0 : evA e_0 (.tmp 2) = _ := hA 2 _ rfl
  clear hA
  refine iw_seq <| iw_text ?_
  refine il_ro (fun _ => (ro_eq (ro_ld_ref k34_ty3 rfl s1_0 (nle rfl)) (by simp only [pS, Value.cells, Nat.reduceAdd, pE] <;> rfl))) trivial rfl ?_
  refine il_ro (fun _ => (ro_assign up_h)) trivial rfl ?_
  refine il_end (fun e_1 he_1 => ?_)
  have s0_1 := ef 0 he_1 (u2 rfl s0_0)
  have s2_1 := ef 2 he_1 (u2 rfl s2_0)
  have s4_1 := ef 4 he_1 up_h
  clear he_1 s0_0 s1_0 s2_0
  refine theni_n <| iw_block <| iw_loop (S := Int) (fun j e b i => (evA e (.tmp 4) = .v (.int .i64 j)) ∧ (evA e (.tmp 0) = evA e_1 (.tmp 0)) ∧ (evA e (.tmp 2) = evA e_1 (.tmp 2)) ∧ (b = true) ∧ (i = ((List.range j.toNat).filter (stB ps post)).length) ∧ ((post ≤ j ∧ j ≤ ps.length))) (fun j => (ps.length - j).toNat) _ ⟨s4_1, rfl, rfl, rfl, (by exact hz.symm), ?_⟩ ?_
  · (exact ⟨by omega, by omega⟩)
  · rintro j e_2 _ i_2 ⟨s4_2, k0_2, k2_2, rfl, hix, hinv⟩
    have s0_2 := k0_2.trans s0_1
    have s2_2 := k2_2.trans s2_1
    (have p1 := hinv.1; have p2 := hinv.2)
    refine iw_seq <| iw_seq <| iw_text ?_
    refine il_ro (fun _ => (ro_move s4_2)) trivial rfl ?_
    refine il_ro (fun _ => (ro_eq (ro_fld_ref qfl173_0 rfl (up_m rfl s2_2)) (by simp only [pS, Value.cells, Nat.reduceAdd, pE] <;> rfl))) trivial rfl ?_
    refine il_ro (fun _ => (ro_eq (ro_fld_ref qfl168_0 rfl up_h) (by simp only [pS, Value.cells, Nat.reduceAdd, pE] <;> rfl))) trivial rfl ?_
    refine il_ro (fun _ => (ro_eq (ro_fld_ref qfl100_1 rfl up_h) (by simp only [pS, Value.cells, Nat.reduceAdd, pE] <;> rfl))) trivial rfl ?_
    refine il_ro (fun _ => (ro_eq (ro_ld_ref k34_ty98 rfl up_h (nle rfl)) (by simp only [pS, Value.cells, Nat.reduceAdd, pE] <;> rfl))) trivial rfl ?_
    refine il_ro (fun _ => (ro_eq (ro_len_row up_h rfl k34_sl98.1) (by simp only [lnS] <;> rfl))) trivial rfl ?_
    refine il_ro (fun _ => (ro_lss (up_m rfl (u4 rfl up_h)) up_h)) trivial rfl ?_
    refine il_end (fun e_3 he_3 => ?_)
    have s0_3 := ef 0 he_3 (up_m rfl (u2 rfl (u4 rfl s0_2)))
    have s2_3 := ef 2 he_3 (up_m rfl (u2 rfl (u4 rfl s2_2)))
    have s4_3 := ef 4 he_3 (up_m rfl (u2 rfl (u4 rfl s4_2)))
    have s12_3 := ef 12 he_3 up_h
    clear he_3 s0_2 s2_2 s4_2
    refine theni_n <| iw_case s12_3 (fun hq_4 => ?_) (fun hq_4 => ?_)
    ·replace hq_4 := bt hq_4
     refine iw_skip <| theni_n <| iw_seq <| iw_block <| iw_seq <| iw_text ?_
     refine il_ro (fun _ => (ro_eq (ro_fld_ref qfl173_0 rfl s2_3) (by simp only [pS, Value.cells, Nat.reduceAdd, pE] <;> rfl))) trivial rfl ?_
     refine il_ro (fun _ => (ro_eq (ro_fld_ref qfl168_0 rfl up_h) (by simp only [pS, Value.cells, Nat.reduceAdd, pE] <;> rfl))) trivial rfl ?_
     refine il_ro (fun _ => (ro_eq (ro_fld_ref qfl100_1 rfl up_h) (by simp only [pS, Value.cells, Nat.reduceAdd, pE] <;> rfl))) trivial rfl ?_
     refine il_ro (fun _ => (ro_eq (ro_ld_ref k34_ty98 rfl up_h (nle rfl)) (by simp only [pS, Value.cells, Nat.reduceAdd, pE] <;> rfl))) trivial rfl ?_
     refine il_ro (fun _ => (ro_move (u4 rfl s4_3))) trivial rfl ?_
     refine il_ro (fun _ => (ro_eq (ro_ix k34_sl98 (up_m rfl up_h) up_h (by omega) (by first | (refine idx_map ?_; first | omega | (simp only [lnS]; omega)) | (refine idx_mapI ?_; first | omega | (simp only [lnS]; omega)) | (refine idx_mapN ?_; first | omega | (simp only [lnS]; omega)) | rfl)) (by simp only [pS, Value.cells, Nat.reduceAdd, pE] <;> rfl))) trivial rfl ?_
     refine il_ro (fun _ => (ro_eq (ro_fld_ref qfl104_3 rfl up_h) (by simp only [pS, Value.cells, Nat.reduceAdd, pE] <;> rfl))) trivial rfl ?_
     refine il_ro (fun _ => (ro_eq (ro_ld_ref k34_ty4 rfl up_h (nle rfl)) (by simp only [pS, Value.cells, Nat.reduceAdd, pE] <;> rfl))) trivial rfl ?_
     refine il_ro (fun _ => (ro_move up_h)) trivial rfl ?_
     refine il_case up_h (fun hb_5 hq_5 => ?_) (fun hb_5 hq_5 => ?_)
     ·skip
      refine il_ro (fun _ => (ro_move (up_m rfl (u8 rfl s0_3)))) ⟨_, rfl, hb_5⟩ rfl ?_
      refine il_ro (fun _ => (ro_move (u2 rfl (u8 rfl s4_3)))) ⟨_, rfl, (up_m rfl hb_5)⟩ rfl ?_
      refine il_yield2 (up_m rfl up_h) (evL_cons up_h evL_nil) rfl ⟨_, rfl, (u2 rfl hb_5)⟩ rfl (by exact stY_at ⟨h0.1, p1⟩ (by omega) (by assumption) hix) ?_ ?_
      ·
        refine il_ro (fun _ => (ro_not up_h)) ⟨_, rfl, (up_m rfl (u2 rfl hb_5))⟩ rfl ?_
        refine il_ro (fun _ => (ro_pickT (u4 rfl hb_5) up_h)) trivial rfl ?_
        refine il_end (fun e_6 he_6 => ?_)
        have s0_6 := ef 0 he_6 (u2 rfl (u4 rfl (u8 rfl s0_3)))
        have s2_6 := ef 2 he_6 (u2 rfl (u4 rfl (u8 rfl s2_3)))
        have s4_6 := ef 4 he_6 (u2 rfl (u4 rfl (u8 rfl s4_3)))
        have s28_6 := ef 28 he_6 up_h
        clear he_6 hb_5 s0_3 s12_3 s2_3 s4_3
        refine theni_n <| iw_false s28_6 ?_
        refine iw_skip <| blocki_n <| theni_n <| iw_text ?_
        refine il_ro (fun _ => (ro_move s4_6)) trivial rfl ?_
        (refine il_ro (fun _ => (ro_add' up_h ev_c ?_)) trivial rfl ?_; · (unfold In64; omega))
        refine il_ro (fun _ => (ro_assign up_h)) trivial rfl ?_
        refine il_end (fun e_8 he_8 => ?_)
        have s0_8 := ef 0 he_8 (up_m rfl (u2 rfl s0_6))
        have s2_8 := ef 2 he_8 (up_m rfl (u2 rfl s2_6))
        have s4_8 := ef 4 he_8 up_h
        clear he_8 s0_6 s28_6 s2_6 s4_6
        refine theni_n <| ⟨_, ⟨s4_8, (s0_8.trans s0_1.symm), (s2_8.trans s2_1.symm), rfl, (by first | (rw [hix, stY_yes ⟨h0.1, hinv.1⟩ (by assumption)]; done) | (rw [hix, stY_no ⟨h0.1, hinv.1⟩ (by assumption)]; done)), ?_⟩, ?_⟩
        · (exact ⟨by omega, by omega⟩)
        · ((try dsimp only); omega)
      ·
        refine il_ro (fun _ => (ro_not up_h)) ⟨_, rfl, (up_m rfl (u2 rfl hb_5))⟩ rfl ?_
        refine il_ro (fun _ => (ro_pickT (u4 rfl hb_5) up_h)) trivial rfl ?_
        refine il_end (fun e_9 he_9 => ?_)
        have s0_9 := ef 0 he_9 (u2 rfl (u4 rfl (u8 rfl s0_3)))
        have s2_9 := ef 2 he_9 (u2 rfl (u4 rfl (u8 rfl s2_3)))
        have s4_9 := ef 4 he_9 (u2 rfl (u4 rfl (u8 rfl s4_3)))
        have s28_9 := ef 28 he_9 up_h
        clear he_9 hb_5 s0_3 s12_3 s2_3 s4_3
        refine theni_n <| iw_true s28_9 ?_
        refine iw_ret <| blocki_r <| theni_r <| theni_r <| blocki_r <| gen_r (fun hb_ => (by cases hb_))
     refine il_skip ⟨_, rfl, .inl hb_5⟩ rfl ?_
     refine il_skip ⟨_, rfl, .inl (up_m rfl hb_5)⟩ rfl ?_
     refine il_skip ⟨_, rfl, .inl (u2 rfl hb_5)⟩ rfl ?_
     refine il_skip ⟨_, rfl, .inl (up_m rfl (u2 rfl hb_5))⟩ rfl ?_
     refine il_ro (fun _ => (ro_pickF (u4 rfl hb_5) ev_c)) trivial rfl ?_
     refine il_end (fun e_11 he_11 => ?_)
     have s0_11 := ef 0 he_11 (u2 rfl (u4 rfl (u8 rfl s0_3)))
     have s2_11 := ef 2 he_11 (u2 rfl (u4 rfl (u8 rfl s2_3)))
     have s4_11 := ef 4 he_11 (u2 rfl (u4 rfl (u8 rfl s4_3)))
     have s28_11 := ef 28 he_11 up_h
     clear he_11 hb_5 s0_3 s12_3 s2_3 s4_3
     refine theni_n <| iw_false s28_11 ?_
     refine iw_skip <| blocki_n <| theni_n <| iw_text ?_
     refine il_ro (fun _ => (ro_move s4_11)) trivial rfl ?_
     (refine il_ro (fun _ => (ro_add' up_h ev_c ?_)) trivial rfl ?_; · (unfold In64; omega))
     refine il_ro (fun _ => (ro_assign up_h)) trivial rfl ?_
     refine il_end (fun e_13 he_13 => ?_)
     have s0_13 := ef 0 he_13 (up_m rfl (u2 rfl s0_11))
     have s2_13 := ef 2 he_13 (up_m rfl (u2 rfl s2_11))
     have s4_13 := ef 4 he_13 up_h
     clear he_13 s0_11 s28_11 s2_11 s4_11
     refine theni_n <| ⟨_, ⟨s4_13, (s0_13.trans s0_1.symm), (s2_13.trans s2_1.symm), rfl, (by first | (rw [hix, stY_yes ⟨h0.1, hinv.1⟩ (by assumption)]; done) | (rw [hix, stY_no ⟨h0.1, hinv.1⟩ (by assumption)]; done)), ?_⟩, ?_⟩
     · (exact ⟨by omega, by omega⟩)
     · ((try dsimp only); omega)
    replace hq_4 := bf hq_4
    refine iw_exit <| theni_x <| theni_x <| blocki_hit ?_
    refine gen_n (fun hb_ => ?_)
    (first | (rw [hix, stY_len]; unfold stL; rw [show j.toNat = ps.length by omega]; done))
set_option maxRecDepth 100000 in
set_option maxHeartbeats 4000000 in
theorem stops_ok (nm : ByteArray) (ps : List Piece) (b d v post : Int) : FnOk Try.prog 157 [riA nm ps b d v, iA post] (fun q => q = .clo (.func 167) [] [.ref [iA post], .ref [.v (.string nm), .row 4 (ps.map pE), iA b, iA d, iA v]]) := by
  refine fnOk_of (fn := Try.f157) 6 (by kernel_rfl) rfl (by kernel_rfl) (Nat.le_of_ble_eq_true rfl) ?_
  intro e_0 m_0 hA hm_0
  have s0_0 : evA e_0 (.tmp 0) = _ := hA 0 _ rfl
  have s1_0 : evA e_0 (.tmp 1) = _ := hA 1 _ rfl
  have ml_0 : m_0.length = 0 := by rw [hm_0]; rfl
  clear hA hm_0
  refine aw_seq <| at_ <| al_stm (st_box s0_0 rfl ml_0) trivial rfl (fun m_1 hm_1 => ?_)
  have mo0_1 := m_push hm_1 ml_0
  (first | (simp only [pS, Value.cells, Nat.reduceAdd] at mo0_1; trace "W2.N.1.1") | skip)
  have ml_1 := m_push_l hm_1 ml_0
  have ml_1 : _ = 1 := ml_1
  clear hm_1
  refine al_stm (st_box (up_m rfl s1_0) rfl ml_1) trivial rfl (fun m_2 hm_2 => ?_)
  have mo1_2 := m_push hm_2 ml_1
  (first | (simp only [pS, Value.cells, Nat.reduceAdd] at mo1_2; trace "W2.N.2.1") | skip)
  have mo0_2 := m_push_o hm_2 mo0_1
  have ml_2 := m_push_l hm_2 ml_1
  have ml_2 : _ = 2 := ml_2
  clear hm_2 mo0_1
  refine ar (ro_assign ev_c) rfl <| ae2 (u2 rfl up_h) (up_m rfl up_h) ?_; clear s0_0 s1_0; intro e_3 s2_3 s3_3
  refine then_n <| aw_seq <| at_ <| ar (ro_makeFunc evL_nil (evL_cons s3_3 (evL_cons s2_3 evL_nil))) rfl <| ar (ro_assign up_h) rfl <| ae1 up_h ?_; clear s2_3 s3_3; intro e_4 s4_4
  refine then_n <| aw_ret <| ret1 (.inr rfl) (by kernel_rfl) (resV_tmp s4_4) (vw_clo vwl_nil (vwl_cons (vw_ptr mo1_2 (vwl_cons (.ro _ rfl) vwl_nil)) (vwl_cons (vw_ptr mo0_2 (vwl_cons (.ro _ rfl) (vwl_cons (.ro _ rfl) (vwl_cons (.ro _ rfl) (vwl_cons (.ro _ rfl) (vwl_cons (.ro _ rfl) vwl_nil)))))) vwl_nil))) ?_
  clear s4_4 mo1_2 mo0_2 ml_2
  rfl
theorem stY_one {ps : List Piece} {post : Int} : ∀ y ∈ stY ps post, y.length = 1 := by
  intro y hy
  unfold stY at hy
  obtain ⟨s, _, rfl⟩ := List.mem_map.1 hy
  rfl
theorem stY_of {ps : List Piece} {post : Int} {i : Nat} {a : AV} (h : (stY ps post)[i]? = some [a]) : ∃ s : Nat, (stL ps post)[i]? = some s ∧ a = iA (s : Int) ∧ post ≤ s ∧ s < ps.length ∧ (ps.getD s default).leave = true := by
  unfold stY at h
  rw [List.getElem?_map] at h
  cases hs : (stL ps post)[i]? with
  | none => rw [hs] at h; cases h
  | some s =>
    rw [hs] at h
    simp at h
    have hm := List.mem_of_getElem? hs
    unfold stL at hm
    rw [List.mem_filter] at hm
    obtain ⟨h1, h2⟩ := hm
    unfold stB at h2
    simp at h1 h2
    exact ⟨s, rfl, h.symm, h2.1, h1, h2.2⟩
/-- The stops that a train reaches, of these. -/
def rcP (ps : List Piece) (b d post sq : Int) (l : List Nat) : List Int := (l.filter fun (s : Nat) => decide ((runW ps b d (s : Int) post sq).2 = 0)).map fun (n : Nat) => (n : Int)
def rcW (ps : List Piece) (b d post sq : Int) : List Int := rcP ps b d post sq (stL ps post)
theorem rcP_yes {ps : List Piece} {b d post sq : Int} {l : List Nat} {i s : Nat} (h : l[i]? = some s) (hr : (runW ps b d (s : Int) post sq).2 = 0) : rcP ps b d post sq (l.take (i + 1)) = rcP ps b d post sq (l.take i) ++ [(s : Int)] := by
  unfold rcP
  rw [List.take_add_one, h]
  simp [List.filter_append, hr]
theorem rcP_no {ps : List Piece} {b d post sq : Int} {l : List Nat} {i s : Nat} (h : l[i]? = some s) (hr : ¬ (runW ps b d (s : Int) post sq).2 = 0) : rcP ps b d post sq (l.take (i + 1)) = rcP ps b d post sq (l.take i) := by
  unfold rcP
  rw [List.take_add_one, h]
  simp [List.filter_append, hr]
theorem rcP_len {ps : List Piece} {b d post sq : Int} {l : List Nat} : (rcP ps b d post sq l).length ≤ l.length := by
  unfold rcP
  rw [List.length_map]; exact List.length_filter_le _ _
theorem stL_len (ps : List Piece) (post : Int) : (stL ps post).length ≤ ps.length := by
  unfold stL
  have := List.length_filter_le (stB ps post) (List.range ps.length)
  simpa using this
set_option maxRecDepth 100000 in
set_option maxHeartbeats 4000000 in
theorem reached_ok (nm : ByteArray) (ps : List Piece) (hok : trackR ps) (b d v : Int) (hb : sysR b d v) (post sq : Int) (h0 : 0 ≤ post ∧ post ≤ ps.length) (hsq : 0 ≤ sq ∧ sq ≤ 20000000000) : FnOk Try.prog 123 [riA nm ps b d v, .agg [iA post, iA sq]] (fun q => q = .row 1 ((rcW ps b d post sq).map iE)) := by
  obtain ⟨q1, q2, q3⟩ := id hok
  have hsl := stL_len ps post
  refine fnOk_of (fn := Try.f123) 28 (by kernel_rfl) rfl (by kernel_rfl) (Nat.le_of_ble_eq_true rfl) ?_
  intro e_0 m_0 hA hm_0
  have s0_0 : evA e_0 (.tmp 0) = _ := hA 0 _ rfl
  have s1_0 : evA e_0 (.tmp 1) = _ := hA 1 _ rfl
  have ml_0 : m_0.length = 0 := by rw [hm_0]; rfl
  clear hA hm_0
  refine aw_seq <| at_ <| al_stm (st_box s0_0 rfl ml_0) trivial rfl (fun m_1 hm_1 => ?_)
  have mo0_1 := m_push hm_1 ml_0
  have ml_1 := m_push_l hm_1 ml_0
  have ml_1 : _ = 1 := ml_1
  clear hm_1
  refine al_stm (st_box (up_m rfl s1_0) rfl ml_1) trivial rfl (fun m_2 hm_2 => ?_)
  have mo1_2 := m_push hm_2 ml_1
  have mo0_2 := m_push_o hm_2 mo0_1
  have ml_2 := m_push_l hm_2 ml_1
  have ml_2 : _ = 2 := ml_2
  clear hm_2 mo0_1
  refine ar (ro_assign ev_c) rfl <| ae2 (u2 rfl up_h) (up_m rfl up_h) ?_; clear s0_0 s1_0; intro e_3 s2_3 s3_3
  refine then_n <| aw_seq <| at_ <| al_stm (st_alloc k34_az49 rfl ml_2) trivial rfl (fun m_4 hm_4 => ?_)
  have mo2_4 := m_push hm_4 ml_2
  simp only [pS, Value.cells, Nat.reduceAdd, one_iE, app_m] at mo2_4
  have mo1_4 := m_push_o hm_4 mo1_2
  have mo0_4 := m_push_o hm_4 mo0_2
  have ml_4 := m_push_l hm_4 ml_2
  have ml_4 : _ = 3 := ml_4
  clear hm_4 mo1_2 mo0_2
  refine ae3 (up_m rfl s2_3) (up_m rfl s3_3) up_h ?_; clear s2_3 s3_3; intro e_5 s2_5 s3_5 s5_5
  refine then_n <| aw_seq <| aw_seq <| at_ <| ar (ro_eq (ro_ld_ptr k34_ty173 rfl mo0_4 s2_5 (nle rfl)) (by simp only [pS, Value.cells, Nat.reduceAdd, one_iE, app_m] <;> rfl)) rfl ?_
  refine ar (ro_fld_ptr qfl113_0 rfl (up_m rfl s3_5)) rfl <| ar (ro_eq (ro_ld_ptr k34_ty3 rfl mo1_4 up_h (nle rfl)) (by simp only [pS, Value.cells, Nat.reduceAdd, one_iE, app_m] <;> rfl)) rfl ?_
  refine ar (ro_call (evL_cons (u2 rfl up_h) (evL_cons up_h evL_nil)) rfl (stops_ok nm ps b d v post) k34_hcf157) rfl <| ae4 (u4 rfl s2_5) (u4 rfl s3_5) (u4 rfl s5_5) up_h ?_; clear s2_5 s3_5 s5_5; intro e_6 s2_6 s3_6 s5_6 s12_6
  refine then_n <| aw_block <| aw_adoptC 3 1 0 mo2_4 rfl ml_4 (fun m0_7 m_7 h0_7 h1_7 => ?_)
  have mp3_7 := m_push h0_7 ml_4
  have mo3_7 := m_set_o h1_7 mp3_7 (by decide)
  have mp2_7 := m_push_o h0_7 mo2_4
  have mo2_7 := m_set h1_7 mp2_7
  simp only [List.set_cons_zero, List.set_cons_succ] at mo2_7
  have mp1_7 := m_push_o h0_7 mo1_4
  have mo1_7 := m_set_o h1_7 mp1_7 (by decide)
  have mp0_7 := m_push_o h0_7 mo0_4
  have mo0_7 := m_set_o h1_7 mp0_7 (by decide)
  have mq_7 := m_push_l h0_7 ml_4
  have ml_7 : _ = 4 := m_set_l h1_7 mq_7
  clear h0_7 h1_7 mq_7 mp3_7 mp2_7 mp1_7 mp0_7
  refine aw_range1 s12_6 (stops1_gen nm ps b d v post h0 (by omega)) k34_hcf167 (by exact stY_one) (Nat.le_of_ble_eq_true rfl) (fun i mem => ∃ s : (Nat × List Int), match s with | ⟨k, xs⟩ => (mem[2]? = some (.box 49 [.own k])) ∧ (mem[k]? = some (.row 3 1 (xs.map iE))) ∧ (mem[1]? = m_7[1]?) ∧ (mem[0]? = m_7[0]?) ∧ (∃ n, mem.length = n ∧ 4 ≤ n) ∧ ((3 ≤ k ∧ xs = rcP ps b d post sq ((stL ps post).take i)))) ⟨⟨_, []⟩, mo2_7, mo3_7, rfl, rfl, ⟨_, ml_7, by omega⟩, ?_⟩ ?_ ?_
  · (exact ⟨by omega, by simp [rcP]⟩)
  · rintro i_8 y0_8 m_8 hy_8 ⟨⟨k, xs⟩, mo2_8, mok_8, mk1_8, mk0_8, ⟨n_8, ml_8, hn_8⟩, hinv⟩
    have jlk_8 := m_lt mok_8 ml_8
    (obtain ⟨p1, p2⟩ := hinv; obtain ⟨s, hs, rfl, s1, s2, s3⟩ := stY_of hy_8; have hxl : xs.length ≤ 1000 := (by rw [p2]; have := rcP_len (ps := ps) (b := b) (d := d) (post := post) (sq := sq) (l := (stL ps post).take i_8); have := List.length_take_le' i_8 (stL ps post); omega))
    have mo1_8 := mk1_8.trans mo1_7
    have mo0_8 := mk0_8.trans mo0_7
    refine aw_env (fun e_8 he_8 => ?_)
    have s2_8 := ef 2 he_8 (up_m rfl s2_6)
    have s3_8 := ef 3 he_8 (up_m rfl s3_6)
    have s5_8 := ef 5 he_8 (up_m rfl s5_6)
    have s12_8 := ef 12 he_8 (up_m rfl s12_6)
    have s13_8 := ef 13 he_8 up_h
    clear he_8
    refine at_ <| ar (ro_assign s13_8) rfl <| ae4 (up_m rfl s2_8) (up_m rfl s3_8) (up_m rfl s5_8) up_h ?_; clear s12_8 s13_8 s2_8 s3_8 s5_8; intro e_9 s2_9 s3_9 s5_9 s6_9
    refine fallb_n ?_
    refine aw_block <| aw_seq <| at_ <| ar (ro_eq (ro_ld_ptr k34_ty173 rfl mo0_8 s2_9 (nle rfl)) (by simp only [pS, Value.cells, Nat.reduceAdd, one_iE, app_m] <;> rfl)) rfl ?_
    refine ar (ro_eq (ro_ld_ptr k34_ty113 rfl mo1_8 (up_m rfl s3_9) (nle rfl)) (by simp only [pS, Value.cells, Nat.reduceAdd, one_iE, app_m] <;> rfl)) rfl ?_
    refine ar (ro_move (u2 rfl s6_9)) rfl <| ar (ro_call (evL_cons (u2 rfl up_h) (evL_cons (up_m rfl up_h) (evL_cons up_h evL_nil))) rfl (run_ok nm ps hok b d v hb post sq s h0.1 (by omega) (by omega) hsq) qhcf125) rfl ?_
    refine ar (ro_move up_h) rfl <| ar (ro_extract up_h rfl) rfl <| ar (ro_extract (up_m rfl up_h) rfl) rfl <| ar (ro_assign (up_m rfl up_h)) rfl <| ar (ro_assign (up_m rfl up_h)) rfl <| ae3 (up_m rfl (u8 rfl s5_9)) (up_m rfl (u8 rfl s6_9)) up_h ?_; clear s2_9 s3_9 s5_9 s6_9; intro e_10 s5_10 s6_10 s8_10
    refine then_n <| aw_seq <| at_ <| ar (ro_move s8_10) rfl <| ar (ro_eql up_h ev_c) rfl ?_
    refine ae3 (u2 rfl s5_10) (u2 rfl s6_10) up_h ?_; clear s5_10 s6_10 s8_10; intro e_11 s5_11 s6_11 s22_11
    refine then_n <| aw_case s22_11 (fun hq_12 => ?_) (fun hq_12 => ?_)
    ·replace hq_12 := bt hq_12
     refine at_ <| ar (ro_eq (ro_ld_ptr k34_ty49 rfl mo2_8 s5_11 (nle rfl)) (by simp only [pS, Value.cells, Nat.reduceAdd, one_iE, app_m] <;> rfl)) rfl ?_
     refine ar (ro_move (up_m rfl s6_11)) rfl <| ar (ro_lit k34_sl49 (evP_cons up_h evP_nil) rfl rfl rfl rfl) rfl <| al_stm (st_app k34_sl49 rfl ml_8 mok_8 (u2 rfl up_h) up_h (by rfl) (by simp only [lnS] <;> omega)) trivial rfl (fun m_13 hm_13 => ?_)
     have mon_8_13 := m_swap hm_13 ml_8
     simp only [pS, Value.cells, Nat.reduceAdd, one_iE, app_m] at mon_8_13
     have mo2_13 := m_swap_o hm_13 mo2_8 (by omega)
     have mo1_13 := m_swap_o hm_13 mo1_8 (by omega)
     have mo0_13 := m_swap_o hm_13 mo0_8 (by omega)
     have ml_13 := m_swap_l hm_13 ml_8
     clear hm_13 mo2_8 mok_8 mo1_8 mo0_8
     refine al_stm (st_store_own (u4 rfl s5_11) up_h mo2_13 mon_8_13 qsz49 (nle rfl)) trivial rfl (fun m_14 hm_14 => ?_)
     have mo2_14 := m_set hm_14 mo2_13
     simp only [pS, Value.cells, Nat.reduceAdd, one_iE, app_m] at mo2_14
     have mon_8_14 := m_set_o hm_14 mon_8_13 (by omega)
     have mo1_14 := m_set_o hm_14 mo1_13 (by decide)
     have mo0_14 := m_set_o hm_14 mo0_13 (by decide)
     have ml_14 := m_set_l hm_14 ml_13
     clear hm_14 mon_8_13 mo2_13 mo1_13 mo0_13
     refine ae1 (up_n (u4 rfl s5_11)) ?_; clear s22_11 s5_11 s6_11; intro e_15 s5_15
     refine block_n <| rnd_n ⟨⟨_, _⟩, mo2_14, mon_8_14, (mo1_14.trans mo1_7.symm), (mo0_14.trans mo0_7.symm), ⟨_, ml_14, by omega⟩, ?_⟩
     (first | exact ⟨by omega, by rw [p2, rcP_yes hs (by assumption)]⟩ | exact ⟨by omega, by rw [p2, rcP_no hs (by assumption)]⟩)
    replace hq_12 := bf hq_12
    refine aw_skip <| block_n <| rnd_n ⟨⟨_, _⟩, mo2_8, mok_8, (mo1_8.trans mo1_7.symm), (mo0_8.trans mo0_7.symm), ⟨_, ml_8, by omega⟩, ?_⟩
    (first | exact ⟨by omega, by rw [p2, rcP_yes hs (by assumption)]⟩ | exact ⟨by omega, by rw [p2, rcP_no hs (by assumption)]⟩)
  · rintro m_8 ⟨⟨k, xs⟩, mo2_8, mok_8, mk1_8, mk0_8, ⟨n_8, ml_8, hn_8⟩, hinv⟩
    have mo1_8 := mk1_8.trans mo1_7
    have mo0_8 := mk0_8.trans mo0_7
    (obtain ⟨p1, p2⟩ := hinv)
    refine block_n <| then_n <| aw_seq <| at_ <| ar (ro_eq (ro_ld_ptr k34_ty49 rfl mo2_8 s5_6 (nle rfl)) (by simp only [pS, Value.cells, Nat.reduceAdd, one_iE, app_m] <;> rfl)) rfl ?_
    refine ar (ro_assign up_h) rfl <| ae1 up_h ?_; clear s12_6 s2_6 s3_6 s5_6; intro e_16 s4_16
    refine then_n <| aw_ret <| ret1 (.inr rfl) (by kernel_rfl) (resV_tmp s4_16) (.own _ _ _ _ mok_8) ?_
    clear s4_16 mo2_8 mok_8 mo1_8 mo0_8 ml_8
    (rw [p2, stY_len, List.take_length]; rfl)
end Go.Proofs.Ytonjcljnpcmenaa

/- Contracts of chapter 5: StopsOf, GreatestAt, FirstUnsafe. No conditions on a program. -/
namespace Go.Proofs.Ytonjcljnpcmenaa
open Go Go.RowKit Go.Proofs
set_option linter.unusedSimpArgs false
set_option linter.unusedVariables false
theorem k35_hcf123 : ∀ args w, (callFunc 123 args).run Try.prog w = .ok (.enter 123 args) w := fun _ _ => by kernel_rfl
theorem k35_sl185 : SlIs Try.prog 185 34 1 8 (.int .i64 0) := ⟨by kernel_rfl, by kernel_rfl, by kernel_rfl⟩
theorem k35_ty100 : TyIs Try.prog 100 true 2 := ⟨by kernel_rfl, by kernel_rfl⟩
theorem k35_ty113 : TyIs Try.prog 113 true 2 := ⟨by kernel_rfl, by kernel_rfl⟩
theorem k35_ty173 : TyIs Try.prog 173 true 5 := ⟨by kernel_rfl, by kernel_rfl⟩
theorem k35_ty93 : TyIs Try.prog 93 true 3 := ⟨by kernel_rfl, by kernel_rfl⟩

section
variable (nm : ByteArray) (ps : List Piece) (hs : nm.size ≤ 1000000000) (hp : ps.length ≤ 1000000000) (b d v : Int)
include hs hp
set_option maxRecDepth 100000 in
set_option maxHeartbeats 4000000 in
theorem stopsOf_ok (post sq : Int) : FnOk Try.prog 64 [trA nm ps, syA b d v, .agg [iA post, iA sq]] (fun q => q = .tuple [.row 1 ((if stE nm ps b d v post sq = 0 then rcW ps b d post sq else []).map iE), iA (stE nm ps b d v post sq)]) := by
  refine fnOk_of (fn := Try.f64) 28 (by kernel_rfl) rfl (by kernel_rfl) (Nat.le_of_ble_eq_true rfl) ?_
  intro e_0 m_0 hA hm_0
  have s0_0 : evA e_0 (.tmp 0) = _ := hA 0 _ rfl
  have s1_0 : evA e_0 (.tmp 1) = _ := hA 1 _ rfl
  have s2_0 : evA e_0 (.tmp 2) = _ := hA 2 _ rfl
  have ml_0 : m_0.length = 0 := by rw [hm_0]; rfl
  clear hA hm_0
  refine aw_seq <| at_ <| al_stm (st_box s0_0 rfl ml_0) trivial rfl (fun m_1 hm_1 => ?_)
  have mo0_1 := m_push hm_1 ml_0
  have ml_1 := m_push_l hm_1 ml_0
  have ml_1 : _ = 1 := ml_1
  clear hm_1
  refine al_stm (st_box (up_m rfl s1_0) rfl ml_1) trivial rfl (fun m_2 hm_2 => ?_)
  have mo1_2 := m_push hm_2 ml_1
  have mo0_2 := m_push_o hm_2 mo0_1
  have ml_2 := m_push_l hm_2 ml_1
  have ml_2 : _ = 2 := ml_2
  clear hm_2 mo0_1
  refine al_stm (st_box (u2 rfl s2_0) rfl ml_2) trivial rfl (fun m_3 hm_3 => ?_)
  have mo2_3 := m_push hm_3 ml_2
  have mo1_3 := m_push_o hm_3 mo1_2
  have mo0_3 := m_push_o hm_3 mo0_2
  have ml_3 := m_push_l hm_3 ml_2
  have ml_3 : _ = 3 := ml_3
  clear hm_3 mo1_2 mo0_2
  refine ar (ro_assign ev_c) rfl <| ar (ro_assign ev_c) rfl <| ae3 (u4 rfl up_h) (up_m rfl (u2 rfl up_h)) (u2 rfl up_h) ?_; clear s0_0 s1_0 s2_0; intro e_4 s3_4 s4_4 s5_4
  refine then_n <| aw_seq <| at_ <| ar (ro_eq (ro_ld_ptr k35_ty100 rfl mo0_3 s3_4 (nle rfl)) (by simp only [pS, Value.cells, Nat.reduceAdd] <;> rfl)) rfl ?_
  refine ar (ro_eq (ro_ld_ptr k35_ty93 rfl mo1_3 (up_m rfl s4_4) (nle rfl)) (by simp only [pS, Value.cells, Nat.reduceAdd] <;> rfl)) rfl ?_
  refine ar (ro_call (evL_cons (up_m rfl up_h) (evL_cons up_h evL_nil)) rfl (openRide_ok nm ps hs hp b d v) qhcf114) rfl <| ar (ro_move up_h) rfl <| ar (ro_extract up_h rfl) rfl <| ar (ro_extract (up_m rfl up_h) rfl) rfl <| al_stm (st_alloc qaz173 rfl ml_3) trivial rfl (fun m_5 hm_5 => ?_)
  have mo3_5 := m_push hm_5 ml_3
  simp only [pS, Value.cells, Nat.reduceAdd] at mo3_5
  have mo2_5 := m_push_o hm_5 mo2_3
  have mo1_5 := m_push_o hm_5 mo1_3
  have mo0_5 := m_push_o hm_5 mo0_3
  have ml_5 := m_push_l hm_5 ml_3
  have ml_5 : _ = 4 := ml_5
  clear hm_5 mo2_3 mo1_3 mo0_3
  refine al_stm (st_store up_h (u2 rfl up_h) rfl rfl mo3_5 qsz173 rfl (nle rfl)) trivial rfl (fun m_6 hm_6 => ?_)
  have mo3_6 := m_set hm_6 mo3_5
  simp only [pS, Value.cells, Nat.reduceAdd] at mo3_6
  have mo2_6 := m_set_o hm_6 mo2_5 (by decide)
  have mo1_6 := m_set_o hm_6 mo1_5 (by decide)
  have mo0_6 := m_set_o hm_6 mo0_5 (by decide)
  have ml_6 := m_set_l hm_6 ml_5
  clear hm_6 mo3_5 mo2_5 mo1_5 mo0_5
  refine ar (ro_assign (up_n (up_m rfl up_h))) rfl <| ae3 (up_m rfl (up_n (up_m rfl (u2 rfl (u4 rfl s5_4))))) (up_m rfl (up_n up_h)) up_h ?_; clear s3_4 s4_4 s5_4; intro e_7 s5_7 s8_7 s9_7
  refine then_n <| aw_seq <| aw_seq <| at_ <| ar (ro_move s9_7) rfl <| ar (ro_eq (ro_ld_ptr k35_ty173 rfl mo3_6 (up_m rfl s8_7) (nle rfl)) (by simp only [pS, Value.cells, Nat.reduceAdd] <;> rfl)) rfl ?_
  refine ar (ro_eq (ro_ld_ptr k35_ty113 rfl mo2_6 (u2 rfl s5_7) (nle rfl)) (by simp only [pS, Value.cells, Nat.reduceAdd] <;> rfl)) rfl ?_
  refine ar (ro_call (evL_cons (up_m rfl up_h) (evL_cons up_h evL_nil)) rfl (stateErr_ok nm ps hp b d v post sq) qhcf122) rfl <| ar (ro_lit k35_sl185 (evP_cons (up_m rfl (u2 rfl up_h)) (evP_cons up_h evP_nil)) rfl rfl rfl rfl) rfl <| ar (ro_call (evL_cons up_h evL_nil) rfl (first_ok [_, _] (by simp)) qhcf115) rfl ?_
  refine ar (ro_assign up_h) rfl <| ae3 (up_m rfl (u2 rfl (u4 rfl s5_7))) (up_m rfl (u2 rfl (u4 rfl s8_7))) up_h ?_; clear s5_7 s8_7 s9_7; intro e_8 s5_8 s8_8 s9_8
  refine then_n <| aw_seq <| at_ <| ar (ro_move s9_8) rfl <| ar (ro_neq up_h ev_c) rfl <| ae4 (u2 rfl s5_8) (u2 rfl s8_8) (u2 rfl s9_8) up_h ?_; clear s5_8 s8_8 s9_8; intro e_9 s5_9 s8_9 s9_9 s23_9
  refine then_n <| aw_case s23_9 (fun hq_10 => ?_) (fun hq_10 => ?_)
  ·replace hq_10 := bnt hq_10
   refine aw_seq <| at_ <| ar (ro_move s9_9) rfl <| ar (ro_assign ev_c) rfl <| ar (ro_assign (up_m rfl up_h)) rfl <| ae2 (up_m rfl up_h) up_h ?_; clear s23_9 s5_9 s8_9 s9_9; intro e_11 s6_11 s7_11
   refine then_n <| aw_ret <| then_r <| ret2 (.inr rfl) (by kernel_rfl) (resV_tmp s6_11) (resV_tmp s7_11) (.nil 1) (.ro _ rfl) ?_
   clear s6_11 s7_11 mo3_6 mo2_6 mo1_6 mo0_6 ml_6
   (have hq : ¬ stE nm ps b d v post sq = 0 := (by assumption); rw [if_neg hq]; rfl)
  replace hq_10 := bnf hq_10
  (have hq : stE nm ps b d v post sq = 0 := (by assumption); have hR := stE_right hq)
  refine aw_skip <| then_n <| aw_seq <| at_ <| ar (ro_eq (ro_ld_ptr k35_ty173 rfl mo3_6 s8_9 (nle rfl)) (by simp only [pS, Value.cells, Nat.reduceAdd] <;> rfl)) rfl ?_
  refine ar (ro_eq (ro_ld_ptr k35_ty113 rfl mo2_6 (up_m rfl s5_9) (nle rfl)) (by simp only [pS, Value.cells, Nat.reduceAdd] <;> rfl)) rfl ?_
  refine ar (ro_call (evL_cons (up_m rfl up_h) (evL_cons up_h evL_nil)) rfl (reached_ok nm ps hR.1 b d v hR.2.1 post sq hR.2.2.1 hR.2.2.2) k35_hcf123) rfl <| ar (ro_assign up_h) rfl <| ar (ro_assign ev_c) rfl <| ae2 (up_m rfl up_h) up_h ?_; clear s23_9 s5_9 s8_9 s9_9; intro e_12 s6_12 s7_12
  refine then_n <| aw_ret <| ret2 (.inr rfl) (by kernel_rfl) (resV_tmp s6_12) (resV_tmp s7_12) (.ro _ rfl) (.ro _ rfl) ?_
  clear s6_12 s7_12 mo3_6 mo2_6 mo1_6 mo0_6 ml_6
  (rw [hq, if_pos rfl])
end
/-- Not safe at a post. -/
def fuB (ps : List Piece) (b d : Int) (xs : List Int) (i : Nat) : Prop := (rcW ps b d (i : Int) (xs.getD i default)).length = 0
instance (ps : List Piece) (b d : Int) (xs : List Int) (i : Nat) : Decidable (fuB ps b d xs i) := by unfold fuB; exact inferInstance
end Go.Proofs.Ytonjcljnpcmenaa

/- The law of chapter 5 on where a train may be left: the walk. No conditions on a program. -/
namespace Go.Proofs.Ytonjcljnpcmenaa
open Go Go.RowKit Go.Proofs
set_option linter.unusedSimpArgs false
set_option linter.unusedVariables false

section
variable {nm : ByteArray} {ps : List Piece} (hs : nm.size ≤ 1000000000) (hp : ps.length ≤ 1000000000)
include hs hp
theorem places3_ok (hc : (chk nm ps).2 = 0) : FnOk Try.prog 59 [trA nm ps] (fun q => q = .tuple [.row 1 ((plW ps ps.length).map iE), iA 0]) :=
  (placesOf_ok nm ps hs hp).mono fun q h => h.trans (by rw [hc, if_pos rfl])
theorem standsAt3_ok {b d v post sq : Int} (hc : stE nm ps b d v post sq = 0) : FnOk Try.prog 66 [trA nm ps, syA b d v, .agg [iA post, iA sq]] (fun q => q = .tuple [.agg [iA (stW ps b post sq).1.1, iA (stW ps b post sq).1.2], iA (stW ps b post sq).2]) :=
  (standsAt_ok nm ps hs hp b d v post sq).mono fun q h => h.trans (by rw [hc, if_pos rfl, if_pos rfl])
end
end Go.Proofs.Ytonjcljnpcmenaa

/- What the law of the top on lines and stops takes from chapter 5. No conditions on a program. -/
namespace Go.Proofs.Ytonjcljnpcmenaa
open Go Go.RowKit Go.Proofs
set_option linter.unusedSimpArgs false
set_option linter.unusedVariables false
theorem k46_az93 : (Try.prog.info? 93).bind (·.zero) = some (.agg #[.int .i64 0, .int .i64 0, .int .i64 0]) := by kernel_rfl
theorem k46_bz93 : (Try.prog.info? 93).bind (·.zero) = some (.agg #[.int .i64 0, .int .i64 0, .int .i64 0]) := by kernel_rfl
theorem k46_bu93 : Try.prog.underlying 93 = some (.struct (fsOf Try.prog 93)) := by kernel_rfl
theorem k46_bp93 : ∀ w, ((fsOf Try.prog 93).mapM fun f => Prod.mk f.offset <$> sizeOf f.type : Sem (Array (Nat × Nat))).run Try.prog w = .ok (#[(0, 1), (1, 1), (2, 1)]) w := fun _ => by kernel_rfl
theorem k46_hcf110 : ∀ args w, (callFunc 110 args).run Try.prog w = .ok (.enter 110 args) w := fun _ _ => by kernel_rfl
theorem k46_sl49 : SlIs Try.prog 49 3 1 8 (.int .i64 0) := ⟨by kernel_rfl, by kernel_rfl, by kernel_rfl⟩
theorem k46_sl98 : SlIs Try.prog 98 104 4 32 (.agg #[.int .i64 0, .int .i64 0, .int .i64 0, .bool false]) := ⟨by kernel_rfl, by kernel_rfl, by kernel_rfl⟩
theorem k46_sz93 : (Try.prog.info? 93).map (·.size) = some 3 := by kernel_rfl
theorem k46_ty100 : TyIs Try.prog 100 true 2 := ⟨by kernel_rfl, by kernel_rfl⟩
theorem k46_ty3 : TyIs Try.prog 3 false 1 := ⟨by kernel_rfl, by kernel_rfl⟩
theorem k46_ty93 : TyIs Try.prog 93 true 3 := ⟨by kernel_rfl, by kernel_rfl⟩

set_option maxRecDepth 100000 in
set_option maxHeartbeats 1000000 in
theorem lAwake_ok : FnOk Try.prog 54 [] (fun q => q = bA true) := by
  refine fnOk_of (fn := Try.f54) 43 (by kernel_rfl) rfl (by kernel_rfl) (Nat.le_of_ble_eq_true rfl) ?_
  intro e_0 m_0 hA hm_0
  have ml_0 : m_0.length = 0 := by rw [hm_0]; rfl
  clear hA hm_0
  refine aw_seq <| at_ <| ar (ro_assign ev_c) rfl <| ae0 ?_; intro e_1
  refine then_n <| aw_seq <| at_ <| ar (ro_build (evP_cons ev_c (evP_cons ev_c evP_nil)) qbz104 qbu104 qbp104 rfl) rfl ?_
  refine ar (ro_build (evP_cons ev_c (evP_cons ev_c (evP_cons ev_c evP_nil))) qbz104 qbu104 qbp104 rfl) rfl ?_
  refine ar (ro_build (evP_cons ev_c (evP_cons ev_c (evP_cons ev_c evP_nil))) qbz104 qbu104 qbp104 rfl) rfl ?_
  refine ar (ro_build (evP_cons ev_c (evP_cons ev_c (evP_cons ev_c evP_nil))) qbz104 qbu104 qbp104 rfl) rfl ?_
  refine ar (ro_lit k46_sl98 (evP_cons (up_m rfl (u2 rfl up_h)) (evP_cons (u2 rfl up_h) (evP_cons (up_m rfl up_h) (evP_cons up_h evP_nil)))) rfl rfl rfl rfl) rfl <| ar (ro_build (evP_cons ev_c (evP_cons up_h evP_nil)) qbz100 qbu100 qbp100 rfl) rfl ?_
  refine al_stm (st_alloc qaz100 rfl ml_0) trivial rfl (fun m_2 hm_2 => ?_)
  have mo0_2 := m_push hm_2 ml_0
  simp only [pS, Value.cells, Nat.reduceAdd] at mo0_2
  have ml_2 := m_push_l hm_2 ml_0
  have ml_2 : _ = 1 := ml_2
  clear hm_2
  refine al_stm (st_store up_h (up_m rfl up_h) rfl rfl mo0_2 qsz100 rfl (nle rfl)) trivial rfl (fun m_3 hm_3 => ?_)
  have mo0_3 := m_set hm_3 mo0_2
  simp only [pS, Value.cells, Nat.reduceAdd] at mo0_3
  have ml_3 := m_set_l hm_3 ml_2
  clear hm_3 mo0_2
  refine ae1 (up_n up_h) ?_; intro e_4 s1_4
  refine then_n <| aw_seq <| at_ <| ar (ro_build (evP_cons ev_c (evP_cons ev_c (evP_cons ev_c evP_nil))) k46_bz93 k46_bu93 k46_bp93 rfl) rfl ?_
  refine al_stm (st_alloc k46_az93 rfl ml_3) trivial rfl (fun m_5 hm_5 => ?_)
  have mo1_5 := m_push hm_5 ml_3
  simp only [pS, Value.cells, Nat.reduceAdd] at mo1_5
  have mo0_5 := m_push_o hm_5 mo0_3
  have ml_5 := m_push_l hm_5 ml_3
  have ml_5 : _ = 2 := ml_5
  clear hm_5 mo0_3
  refine al_stm (st_store up_h (up_m rfl up_h) rfl rfl mo1_5 k46_sz93 rfl (nle rfl)) trivial rfl (fun m_6 hm_6 => ?_)
  have mo1_6 := m_set hm_6 mo1_5
  simp only [pS, Value.cells, Nat.reduceAdd] at mo1_6
  have mo0_6 := m_set_o hm_6 mo0_5 (by decide)
  have ml_6 := m_set_l hm_6 ml_5
  clear hm_6 mo1_5 mo0_5
  refine ae2 (up_n (u2 rfl s1_4)) (up_n up_h) ?_; clear s1_4; intro e_7 s1_7 s2_7
  refine then_n <| aw_seq <| at_ <| ar (ro_eq (ro_ld_ptr k46_ty100 rfl mo0_6 s1_7 (nle rfl)) (by simp only [pS, Value.cells, Nat.reduceAdd] <;> rfl)) rfl ?_
  refine ar (ro_eq (ro_ld_ptr k46_ty93 rfl mo1_6 (up_m rfl s2_7) (nle rfl)) (by simp only [pS, Value.cells, Nat.reduceAdd] <;> rfl)) rfl ?_
  refine ar (ro_call (evL_cons (up_m rfl up_h) (evL_cons up_h (evL_cons ev_c evL_nil))) rfl (curve0_ok) k46_hcf110) rfl <| ar (ro_move up_h) rfl <| ar (ro_extract up_h rfl) rfl <| ar (ro_extract (up_m rfl up_h) rfl) rfl <| ar (ro_assign (up_m rfl up_h)) rfl <| ar (ro_assign (up_m rfl up_h)) rfl <| ae4 (u8 rfl s1_7) (u8 rfl s2_7) (up_m rfl up_h) up_h ?_; clear s1_7 s2_7; intro e_8 s1_8 s2_8 s3_8 s4_8
  refine then_n <| aw_seq <| at_ <| ar (ro_eq (ro_ld_ptr k46_ty100 rfl mo0_6 s1_8 (nle rfl)) (by simp only [pS, Value.cells, Nat.reduceAdd] <;> rfl)) rfl ?_
  refine ar (ro_eq (ro_ld_ptr k46_ty93 rfl mo1_6 (up_m rfl s2_8) (nle rfl)) (by simp only [pS, Value.cells, Nat.reduceAdd] <;> rfl)) rfl ?_
  refine ar (ro_build (evP_cons ev_c evP_nil) qbz113 qbu113 qbp113 rfl) rfl ?_
  refine ar (ro_call (evL_cons (u2 rfl up_h) (evL_cons (up_m rfl up_h) (evL_cons up_h (evL_cons ev_c evL_nil)))) rfl (run0_ok) qhcf65) rfl <| ar (ro_move up_h) rfl <| ar (ro_extract up_h rfl) rfl <| ar (ro_extract (up_m rfl up_h) rfl) rfl <| ar (ro_assign (up_m rfl up_h)) rfl <| ar (ro_assign (up_m rfl up_h)) rfl <| ae4 (up_m rfl (u8 rfl s3_8)) (up_m rfl (u8 rfl s4_8)) (up_m rfl up_h) up_h ?_; clear s1_8 s2_8 s3_8 s4_8; intro e_9 s3_9 s4_9 s5_9 s6_9
  refine then_n <| aw_seq <| at_ <| ar (ro_move s4_9) rfl <| ar (ro_eql up_h ev_c) rfl ?_
  refine ar (ro_move up_h) rfl <| al_case up_h (fun hb_10 hq_10 => ?_) (fun hb_10 hq_10 => ?_)
  ·replace hq_10 := bt hq_10
   refine al_ro' (ro_move (up_m rfl (u2 rfl s3_9))) ⟨_, rfl, hb_10⟩ rfl ?_
   refine al_ro' (ro_lit k46_sl49 (evP_cons ev_c (evP_cons ev_c (evP_cons ev_c evP_nil))) rfl rfl rfl rfl) ⟨_, rfl, (up_m rfl hb_10)⟩ rfl ?_
   refine al_ro' (ro_call (evL_cons (up_m rfl up_h) (evL_cons up_h evL_nil)) rfl (same_ok [10000, 8000, 0] (by decide)) qhcf26) ⟨_, rfl, (u2 rfl hb_10)⟩ rfl ?_
   refine ar (ro_pickT (up_m rfl (u2 rfl hb_10)) up_h) rfl <| ar (ro_move up_h) rfl <| al_case up_h (fun hb_11 hq_11 => ?_) (fun hb_11 hq_11 => ?_)
   ·skip
    refine al_ro' (ro_move (u8 rfl s6_9)) ⟨_, rfl, hb_11⟩ rfl ?_
    refine al_ro' (ro_eql up_h ev_c) ⟨_, rfl, (up_m rfl hb_11)⟩ rfl ?_
    refine ar (ro_pickT (u2 rfl hb_11) up_h) rfl <| ar (ro_move up_h) rfl <| al_case up_h (fun hb_12 hq_12 => ?_) (fun hb_12 hq_12 => ?_)
    ·replace hq_12 := bt hq_12
     refine al_ro' (ro_move (u4 rfl (u8 rfl s5_9))) ⟨_, rfl, hb_12⟩ rfl ?_
     refine al_ro' (ro_lit k46_sl49 (evP_cons ev_c (evP_cons ev_c (evP_cons ev_c (evP_cons ev_c evP_nil)))) rfl rfl rfl rfl) ⟨_, rfl, (up_m rfl hb_12)⟩ rfl ?_
     refine al_ro' (ro_call (evL_cons (up_m rfl up_h) (evL_cons up_h evL_nil)) rfl (same_ok [5000, 3000, 1000, 10000] (by decide)) qhcf26) ⟨_, rfl, (u2 rfl hb_12)⟩ rfl ?_
     refine ar (ro_pickT (up_m rfl (u2 rfl hb_12)) up_h) rfl <| ar (ro_assign up_h) rfl <| ae1 up_h ?_; clear hb_10 hb_11 hb_12 s3_9 s4_9 s5_9 s6_9; intro e_13 s0_13
     refine then_n <| aw_ret <| ret1 (.inr rfl) (by kernel_rfl) (resV_tmp s0_13) (.ro _ rfl) ?_
     clear s0_13 mo1_6 mo0_6 ml_6
     rfl
    · replace hq_12 := bf hq_12; exfalso; omega
   · cases hq_11
  · replace hq_10 := bf hq_10; exfalso; omega
/-- Squares from a post on are within the limits of all inner posts. -/
def inL (xs : List Int) (p : Int) (ls : List Int) : Prop := ∀ i : Nat, i < xs.length → 0 < p + i → p + i ≤ ls.length → xs.getD i default ≤ ls.getD (p + i - 1).toNat default
set_option maxRecDepth 100000 in
set_option maxHeartbeats 4000000 in
theorem brakeWithin_ok (xs : List Int) (p : Int) (ls : List Int) (hx : xs.length ≤ 1000) (hl : ls.length ≤ 1000) (hp : 0 ≤ p ∧ p ≤ 1000) (h : inL xs p ls) : FnOk Try.prog 63 [.row 1 (xs.map iE), iA p, .row 1 (ls.map iE)] (fun q => q = bA true) := by
  refine fnOk_of (fn := Try.f63) 38 (by kernel_rfl) rfl (by kernel_rfl) (Nat.le_of_ble_eq_true rfl) ?_
  intro e_0 m_0 hA hm_0
  have s0_0 : evA e_0 (.tmp 0) = _ := hA 0 _ rfl
  have s1_0 : evA e_0 (.tmp 1) = _ := hA 1 _ rfl
  have s2_0 : evA e_0 (.tmp 2) = _ := hA 2 _ rfl
  have ml_0 : m_0.length = 0 := by rw [hm_0]; rfl
  clear hA hm_0
  refine aw_seq <| at_ <| ar (ro_assign ev_c) rfl <| ae3 (up_m rfl s0_0) (up_m rfl s1_0) (up_m rfl s2_0) ?_; clear s0_0 s1_0 s2_0; intro e_1 s0_1 s1_1 s2_1
  refine then_n <| aw_seq <| aw_seq <| at_ <| ar (ro_assign ev_c) rfl <| ae4 (up_m rfl s0_1) (up_m rfl s1_1) (up_m rfl s2_1) up_h ?_; clear s0_1 s1_1 s2_1; intro e_2 s0_2 s1_2 s2_2 s7_2
  refine then_n <| aw_block <| aw_loop (S := Int) (fun i e mem => (evA e (.tmp 7) = .v (.int .i64 i)) ∧ (evA e (.tmp 0) = evA e_2 (.tmp 0)) ∧ (evA e (.tmp 1) = evA e_2 (.tmp 1)) ∧ (evA e (.tmp 2) = evA e_2 (.tmp 2)) ∧ (mem.length = 0) ∧ ((0 ≤ i ∧ i ≤ xs.length))) (fun i => (xs.length - i).toNat) _ ⟨s7_2, rfl, rfl, rfl, ml_0, ?_⟩ ?_
  · (exact ⟨by omega, by omega⟩)
  · rintro i e_3 m_3 ⟨s7_3, k0_3, k1_3, k2_3, ml_3, hinv⟩
    have s0_3 := k0_3.trans s0_2
    have s1_3 := k1_3.trans s1_2
    have s2_3 := k2_3.trans s2_2
    (obtain ⟨p1, p2⟩ := hinv)
    refine aw_seq <| aw_seq <| at_ <| ar (ro_move s7_3) rfl <| ar (ro_move (up_m rfl s0_3)) rfl <| ar (ro_eq (ro_len_row up_h rfl k46_sl49.1) (by simp only [lnS] <;> rfl)) rfl ?_
    refine ar (ro_lss (u2 rfl up_h) up_h) rfl <| ae5 (u4 rfl s0_3) (u4 rfl s1_3) (u4 rfl s2_3) (u4 rfl s7_3) up_h ?_; clear s0_3 s1_3 s2_3 s7_3; intro e_4 s0_4 s1_4 s2_4 s7_4 s12_4
    refine then_n <| aw_case s12_4 (fun hq_5 => ?_) (fun hq_5 => ?_)
    ·replace hq_5 := bt hq_5
     refine aw_skip <| then_n <| aw_seq <| aw_block <| aw_seq <| at_ <| ar (ro_move s1_4) rfl <| ar (ro_move (up_m rfl s7_4)) rfl ?_
     (refine ar (ro_add' (up_m rfl up_h) up_h ?_) rfl ?_; · (unfold In64; omega))
     refine ar (ro_assign up_h) rfl <| ae5 (u4 rfl s0_4) (u4 rfl s1_4) (u4 rfl s2_4) (u4 rfl s7_4) up_h ?_; clear s0_4 s12_4 s1_4 s2_4 s7_4; intro e_6 s0_6 s1_6 s2_6 s7_6 s8_6
     refine then_n <| aw_seq <| aw_draw 20 (by kernel_rfl) (by kernel_rfl) (by kernel_rfl) (by kernel_rfl) ?_
     refine dr (ro_move s8_6) rfl <| dr (ro_gtr up_h ev_c) rfl <| dr (ro_move up_h) rfl <| ds_case up_h (fun hb_7 hq_7 => ?_) (fun hb_7 hq_7 => ?_)
     ·replace hq_7 := bt hq_7
      refine ds_ro' (ro_move (up_m rfl (u2 rfl s8_6))) ⟨_, rfl, hb_7⟩ rfl ?_
      refine ds_ro' (ro_move (u4 rfl s2_6)) ⟨_, rfl, (up_m rfl hb_7)⟩ rfl ?_
      refine ds_ro' (ro_eq (ro_len_row up_h rfl k46_sl49.1) (by simp only [lnS] <;> rfl)) ⟨_, rfl, (u2 rfl hb_7)⟩ rfl ?_
      refine ds_ro' (ro_leq (u2 rfl up_h) up_h) ⟨_, rfl, (up_m rfl (u2 rfl hb_7))⟩ rfl ?_
      refine dr (ro_pickT (u4 rfl hb_7) up_h) rfl <| dr (ro_move up_h) rfl <| ds_case up_h (fun hb_8 hq_8 => ?_) (fun hb_8 hq_8 => ?_)
      ·replace hq_8 := bt hq_8
       refine ds_ro' (ro_move (up_m rfl (u8 rfl s0_6))) ⟨_, rfl, hb_8⟩ rfl ?_
       refine ds_ro' (ro_move (u2 rfl (u8 rfl s7_6))) ⟨_, rfl, (up_m rfl hb_8)⟩ rfl ?_
       refine ds_ro' (ro_eq (ro_ix k46_sl49 (up_m rfl up_h) up_h (by omega) (by first | (refine idx_map ?_; first | omega | (simp only [lnS]; omega)) | (refine idx_mapI ?_; first | omega | (simp only [lnS]; omega)) | (refine idx_mapN ?_; first | omega | (simp only [lnS]; omega)) | rfl)) (by simp only [pS, Value.cells, Nat.reduceAdd] <;> rfl)) ⟨_, rfl, (u2 rfl hb_8)⟩ rfl ?_
       refine ds_ro' (ro_eq (ro_ld_ref k46_ty3 rfl up_h (nle rfl)) (by simp only [pS, Value.cells, Nat.reduceAdd] <;> rfl)) ⟨_, rfl, (up_m rfl (u2 rfl hb_8))⟩ rfl ?_
       refine ds_ro' (ro_move (up_m rfl (u4 rfl (u8 rfl s2_6)))) ⟨_, rfl, (u4 rfl hb_8)⟩ rfl ?_
       refine ds_ro' (ro_move (u2 rfl (u4 rfl (u8 rfl s8_6)))) ⟨_, rfl, (up_m rfl (u4 rfl hb_8))⟩ rfl ?_
       (refine ds_ro' (ro_sub' up_h ev_c ?_) ⟨_, rfl, (u2 rfl (u4 rfl hb_8))⟩ rfl ?_; · (unfold In64; omega))
       refine ds_ro' (ro_eq (ro_ix k46_sl49 (u2 rfl up_h) up_h (by omega) (by first | (refine idx_map ?_; first | omega | (simp only [lnS]; omega)) | (refine idx_mapI ?_; first | omega | (simp only [lnS]; omega)) | (refine idx_mapN ?_; first | omega | (simp only [lnS]; omega)) | rfl)) (by simp only [pS, Value.cells, Nat.reduceAdd] <;> rfl)) ⟨_, rfl, (up_m rfl (u2 rfl (u4 rfl hb_8)))⟩ rfl ?_
       refine ds_ro' (ro_eq (ro_ld_ref k46_ty3 rfl up_h (nle rfl)) (by simp only [pS, Value.cells, Nat.reduceAdd] <;> rfl)) ⟨_, rfl, (u8 rfl hb_8)⟩ rfl ?_
       refine ds_ro' (ro_gtr (up_m rfl (u4 rfl up_h)) up_h) ⟨_, rfl, (up_m rfl (u8 rfl hb_8))⟩ rfl ?_
       refine dr (ro_pickT (u2 rfl (u8 rfl hb_8)) up_h) rfl <| ds_nil <| ae5 (u4 rfl (u16 rfl s0_6)) (u4 rfl (u16 rfl s1_6)) (u4 rfl (u16 rfl s2_6)) (u4 rfl (u16 rfl s7_6)) up_h ?_; clear hb_7 hb_8 s0_6 s1_6 s2_6 s7_6 s8_6; intro e_9 s0_9 s1_9 s2_9 s7_9 s37_9
       refine then_n <| aw_case s37_9 (fun hq_10 => ?_) (fun hq_10 => ?_)
       ·replace hq_10 := bt hq_10
        refine aw_seq <| at_ <| ar (ro_assign ev_c) rfl <| ae1 up_h ?_; clear s0_9 s1_9 s2_9 s37_9 s7_9; intro e_11 s6_11
        refine then_n <| aw_ret <| block_r <| then_r <| then_r <| block_r <| then_r <| ret1 (.inr rfl) (by kernel_rfl) (resV_tmp s6_11) (.ro _ rfl) ?_
        clear s6_11  ml_3
        (exfalso; have hi := h i.toNat (by omega); rw [show ((i.toNat : Nat) : Int) = i by omega] at hi; omega)
       replace hq_10 := bf hq_10
       refine aw_skip <| block_n <| then_n <| at_ <| ar (ro_move s7_9) rfl ?_
       (refine ar (ro_add' up_h ev_c ?_) rfl ?_; · (unfold In64; omega))
       refine ar (ro_assign up_h) rfl <| ae4 (up_m rfl (u2 rfl s0_9)) (up_m rfl (u2 rfl s1_9)) (up_m rfl (u2 rfl s2_9)) up_h ?_; clear s0_9 s1_9 s2_9 s37_9 s7_9; intro e_12 s0_12 s1_12 s2_12 s7_12
       refine then_n <| ⟨_, ⟨s7_12, (s0_12.trans s0_2.symm), (s1_12.trans s1_2.symm), (s2_12.trans s2_2.symm), ml_3, ?_⟩, ?_⟩
       · (exact ⟨by omega, by omega⟩)
       · ((try dsimp only); omega)
      replace hq_8 := bf hq_8
      refine ds_skip' ⟨_, rfl, .inl hb_8⟩ rfl ?_
      refine ds_skip' ⟨_, rfl, .inl (up_m rfl hb_8)⟩ rfl ?_
      refine ds_skip' ⟨_, rfl, .inl (u2 rfl hb_8)⟩ rfl ?_
      refine ds_skip' ⟨_, rfl, .inl (up_m rfl (u2 rfl hb_8))⟩ rfl ?_
      refine ds_skip' ⟨_, rfl, .inl (u4 rfl hb_8)⟩ rfl ?_
      refine ds_skip' ⟨_, rfl, .inl (up_m rfl (u4 rfl hb_8))⟩ rfl ?_
      refine ds_skip' ⟨_, rfl, .inl (u2 rfl (u4 rfl hb_8))⟩ rfl ?_
      refine ds_skip' ⟨_, rfl, .inl (up_m rfl (u2 rfl (u4 rfl hb_8)))⟩ rfl ?_
      refine ds_skip' ⟨_, rfl, .inl (u8 rfl hb_8)⟩ rfl ?_
      refine ds_skip' ⟨_, rfl, .inl (up_m rfl (u8 rfl hb_8))⟩ rfl ?_
      refine dr (ro_pickF (u2 rfl (u8 rfl hb_8)) ev_c) rfl <| ds_nil <| ae5 (u4 rfl (u16 rfl s0_6)) (u4 rfl (u16 rfl s1_6)) (u4 rfl (u16 rfl s2_6)) (u4 rfl (u16 rfl s7_6)) up_h ?_; clear hb_7 hb_8 s0_6 s1_6 s2_6 s7_6 s8_6; intro e_13 s0_13 s1_13 s2_13 s7_13 s37_13
      refine then_n <| aw_false s37_13 <| aw_skip <| block_n <| then_n <| at_ <| ar (ro_move s7_13) rfl ?_
      (refine ar (ro_add' up_h ev_c ?_) rfl ?_; · (unfold In64; omega))
      refine ar (ro_assign up_h) rfl <| ae4 (up_m rfl (u2 rfl s0_13)) (up_m rfl (u2 rfl s1_13)) (up_m rfl (u2 rfl s2_13)) up_h ?_; clear s0_13 s1_13 s2_13 s37_13 s7_13; intro e_15 s0_15 s1_15 s2_15 s7_15
      refine then_n <| ⟨_, ⟨s7_15, (s0_15.trans s0_2.symm), (s1_15.trans s1_2.symm), (s2_15.trans s2_2.symm), ml_3, ?_⟩, ?_⟩
      · (exact ⟨by omega, by omega⟩)
      · ((try dsimp only); omega)
     replace hq_7 := bf hq_7
     refine ds_skip' ⟨_, rfl, .inl hb_7⟩ rfl ?_
     refine ds_skip' ⟨_, rfl, .inl (up_m rfl hb_7)⟩ rfl ?_
     refine ds_skip' ⟨_, rfl, .inl (u2 rfl hb_7)⟩ rfl ?_
     refine ds_skip' ⟨_, rfl, .inl (up_m rfl (u2 rfl hb_7))⟩ rfl ?_
     refine dr (ro_pickF (u4 rfl hb_7) ev_c) rfl <| dr (ro_move up_h) rfl <| ds_skip' ⟨_, rfl, .inl up_h⟩ rfl ?_
     refine ds_skip' ⟨_, rfl, .inl (up_m rfl up_h)⟩ rfl ?_
     refine ds_skip' ⟨_, rfl, .inl (u2 rfl up_h)⟩ rfl ?_
     refine ds_skip' ⟨_, rfl, .inl (up_m rfl (u2 rfl up_h))⟩ rfl ?_
     refine ds_skip' ⟨_, rfl, .inl (u4 rfl up_h)⟩ rfl ?_
     refine ds_skip' ⟨_, rfl, .inl (up_m rfl (u4 rfl up_h))⟩ rfl ?_
     refine ds_skip' ⟨_, rfl, .inl (u2 rfl (u4 rfl up_h))⟩ rfl ?_
     refine ds_skip' ⟨_, rfl, .inl (up_m rfl (u2 rfl (u4 rfl up_h)))⟩ rfl ?_
     refine ds_skip' ⟨_, rfl, .inl (u8 rfl up_h)⟩ rfl ?_
     refine ds_skip' ⟨_, rfl, .inl (up_m rfl (u8 rfl up_h))⟩ rfl ?_
     refine dr (ro_pickF (u2 rfl (u8 rfl up_h)) ev_c) rfl <| ds_nil <| ae5 (u4 rfl (u16 rfl s0_6)) (u4 rfl (u16 rfl s1_6)) (u4 rfl (u16 rfl s2_6)) (u4 rfl (u16 rfl s7_6)) up_h ?_; clear hb_7 s0_6 s1_6 s2_6 s7_6 s8_6; intro e_16 s0_16 s1_16 s2_16 s7_16 s37_16
     refine then_n <| aw_false s37_16 <| aw_skip <| block_n <| then_n <| at_ <| ar (ro_move s7_16) rfl ?_
     (refine ar (ro_add' up_h ev_c ?_) rfl ?_; · (unfold In64; omega))
     refine ar (ro_assign up_h) rfl <| ae4 (up_m rfl (u2 rfl s0_16)) (up_m rfl (u2 rfl s1_16)) (up_m rfl (u2 rfl s2_16)) up_h ?_; clear s0_16 s1_16 s2_16 s37_16 s7_16; intro e_18 s0_18 s1_18 s2_18 s7_18
     refine then_n <| ⟨_, ⟨s7_18, (s0_18.trans s0_2.symm), (s1_18.trans s1_2.symm), (s2_18.trans s2_2.symm), ml_3, ?_⟩, ?_⟩
     · (exact ⟨by omega, by omega⟩)
     · ((try dsimp only); omega)
    replace hq_5 := bf hq_5
    refine aw_exit <| then_x <| then_x <| block_hit <| then_n <| aw_seq <| at_ <| ar (ro_assign ev_c) rfl <| ae1 up_h ?_; clear s0_4 s12_4 s1_4 s2_4 s7_4; intro e_19 s6_19
    refine then_n <| aw_ret <| ret1 (.inr rfl) (by kernel_rfl) (resV_tmp s6_19) (.ro _ rfl) ?_
    clear s6_19  ml_3
    rfl
/-- The stops that a train reaches. -/
theorem rcW_at {ps : List Piece} {b d post sq : Int} {k : Nat} (hk : k < (rcW ps b d post sq).length) : 0 ≤ (rcW ps b d post sq).getD k default ∧ post ≤ (rcW ps b d post sq).getD k default ∧ (rcW ps b d post sq).getD k default < ps.length ∧ (ps.getD ((rcW ps b d post sq).getD k default).toNat default).leave = true ∧ (runW ps b d ((rcW ps b d post sq).getD k default) post sq).2 = 0 := by
  have hm : (rcW ps b d post sq).getD k default ∈ rcW ps b d post sq := by
    rw [List.getD_eq_getElem?_getD, List.getElem?_eq_getElem hk, Option.getD_some]; exact List.getElem_mem hk
  generalize (rcW ps b d post sq).getD k default = s at hm
  unfold rcW rcP at hm
  obtain ⟨n, hn, rfl⟩ := List.mem_map.1 hm
  rw [List.mem_filter] at hn
  obtain ⟨h1, h2⟩ := hn
  unfold stL at h1
  rw [List.mem_filter] at h1
  obtain ⟨h3, h4⟩ := h1
  unfold stB at h4
  simp at h2 h3 h4
  exact ⟨by omega, h4.1, by omega, by simpa using h4.2, h2⟩
theorem rcW_len (ps : List Piece) (b d post sq : Int) : (rcW ps b d post sq).length ≤ ps.length := Nat.le_trans rcP_len (stL_len ps post)
end Go.Proofs.Ytonjcljnpcmenaa

/- A track made from a line: plain facts. No conditions on a program. -/
namespace Go.Proofs.Ytonjcljnpcmenaa
open Go Go.RowKit Go.Proofs
set_option linter.unusedSimpArgs false
set_option linter.unusedVariables false

def wayN : ByteArray := ⟨#[119, 97, 121]⟩
/-- The lesser limit of a beam's ends. -/
def limA (ls : List Int) (i : Nat) : Int := if 0 < i then min 20000000000 (ls.getD (i - 1) default) else 20000000000
def limT (ls : List Int) (i : Nat) : Int := if i < ls.length then min (limA ls i) (ls.getD i default) else limA ls i
/-- The piece of a beam. -/
def tripP (l : Lin) (ls : List Int) (lv : List Bool) (i : Nat) : Piece := ⟨(l.bs.getD i default).len, graX l i / graY l i, limT ls i, decide (i < lv.length) && lv.getD i default⟩
def tripN (l : Lin) (ls : List Int) (lv : List Bool) (n : Nat) : List Piece := (List.range n).map (tripP l ls lv)
theorem tripN_len (l : Lin) (ls : List Int) (lv : List Bool) (n : Nat) : (tripN l ls lv n).length = n := by simp [tripN]
theorem tripN_succ (l : Lin) (ls : List Int) (lv : List Bool) (n : Nat) : tripN l ls lv (n + 1) = tripN l ls lv n ++ [tripP l ls lv n] := by simp [tripN, List.range_succ]
theorem tripN_at (l : Lin) (ls : List Int) (lv : List Bool) {n i : Nat} (h : i < n) : (tripN l ls lv n).getD i default = tripP l ls lv i := by simp [tripN, List.getD_eq_getElem?_getD, h]
theorem sumL_trip (l : Lin) (ls : List Int) (lv : List Bool) {n : Nat} : ∀ {i : Nat}, i ≤ n → sumL (tripN l ls lv n) i = plaP l.bs i
  | 0, _ => rfl
  | i + 1, h => by
    simp only [sumL, plaP]
    rw [sumL_trip l ls lv (by omega), tripN_at l ls lv (by omega)]; rfl
/-- The places of the first so many joints. -/
def pplL (bs : List Bea) (n : Nat) : List Int := (List.range (n + 1)).map (plaP bs)
theorem pplL_len (bs : List Bea) (n : Nat) : (pplL bs n).length = n + 1 := by simp [pplL]
theorem pplL_succ (bs : List Bea) (n : Nat) : pplL bs (n + 1) = pplL bs n ++ [plaP bs (n + 1)] := by simp [pplL, List.range_succ]
theorem plW_trip (l : Lin) (ls : List Int) (lv : List Bool) (n : Nat) : plW (tripN l ls lv n) n = pplL l.bs n := by
  unfold plW pplL
  refine List.map_congr_left fun i hi => ?_
  have : i < n + 1 := by simpa using hi
  exact sumL_trip l ls lv (by omega)
theorem limW_trip (l : Lin) (ls : List Int) (lv : List Bool) {n i : Nat} (h0 : 0 < i) (h1 : i ≤ ls.length) (h2 : ls.length < n) : limW (tripN l ls lv n) i ≤ ls.getD (i - 1) default := by
  unfold limW
  rw [if_neg (by omega), tripN_len, if_pos (by omega), tripN_at l ls lv (by omega)]
  have : (tripP l ls lv (i - 1)).lim = limT ls (i - 1) := rfl
  rw [this]
  unfold limT
  rw [if_pos (by omega)]
  omega
theorem inL_fast {l : Lin} {ls : List Int} {lv : List Bool} {n : Nat} {b v e0 e1 : Int} {xs : List Int} (h2 : ls.length < n) (h : rivalP (tripN l ls lv n) b v e0 e1 xs) : inL xs 0 ls := fun i hi h3 h4 => by
  have hl := h.1
  rw [tripN_len] at hl
  have h5 := rival_lim h (j := i) (by rw [tripN_len]; omega)
  have h6 := limW_trip l ls lv (n := n) (i := i) (by omega) (by omega) h2
  rw [show ((0 : Int) + i - 1).toNat = i - 1 by omega]
  omega
theorem inL_run {l : Lin} {ls : List Int} {lv : List Bool} {n : Nat} {xs : List Int} {p : Int} {m : Nat} (h2 : ls.length < n) (hp : 0 ≤ p) (hl : xs.length = m + 1) (h : ∀ i : Nat, i ≤ m → xs.getD i default ≤ limW (tripN l ls lv n) (p.toNat + i)) : inL xs p ls := fun i hi h3 h4 => by
  have h5 := h i (by omega)
  have h6 := limW_trip l ls lv (n := n) (i := p.toNat + i) (by omega) (by omega) h2
  rw [show (p + i - 1).toNat = p.toNat + i - 1 by omega]
  omega
theorem one_pE (a b c : Int) (d : Bool) : [[AV.v (.int .i64 a), .v (.int .i64 b), .v (.int .i64 c), .v (.bool d)]] = [(⟨a, b, c, d⟩ : Piece)].map pE := rfl
/-- The trip is in the law's range. -/
def TrG (l : Lin) (b d v sd : Int) (lv : List Bool) : Prop := l.nam.size ≤ 20 ∧ l.bs.length ≤ 10 ∧ l.js.length ≤ 11 ∧ l.ss.length ≤ 0 ∧ (linM l).2 = 0 ∧ sidE sd = 0 ∧ sysE b d v = 0 ∧ lv.length ≤ 20
instance (l : Lin) (b d v sd : Int) (lv : List Bool) : Decidable (TrG l b d v sd lv) := by unfold TrG; exact inferInstance
theorem trip_sho {l : Lin} (h1 : l.nam.size ≤ 20) (h2 : l.bs.length ≤ 10) (h3 : l.js.length ≤ 11) (h4 : l.ss.length ≤ 0) : Sho l :=
  ⟨by omega, by omega, by omega, by omega, fun s hs => by rw [List.length_eq_zero_iff.1 (Nat.le_zero.1 h4)] at hs; cases hs⟩
def boE (b : Bool) : List AV := [.v (.bool b)]
/-- One more piece. -/
theorem trip_next {l : Lin} {ls : List Int} {lv : List Bool} {ps : List Piece} {i x : Int} {y : Bool} (h0 : 0 ≤ i) (hp : ps = tripN l ls lv i.toNat) (hx : x = limT ls i.toNat) (hy : y = (decide (i.toNat < lv.length) && lv.getD i.toNat default)) :
    ps ++ [⟨(l.bs.getD i.toNat default).len, graX l i.toNat / graY l i.toNat, x, y⟩] = tripN l ls lv (i + 1).toNat := by
  rw [hp, show (i + 1).toNat = i.toNat + 1 by omega, tripN_succ, hx, hy]; rfl
theorem stE_of {nm : ByteArray} {ps : List Piece} {b d v p s : Int} (hB : firstE [(chk nm ps).2, sysE b d v] = 0) (hp : 0 ≤ p ∧ p ≤ ps.length) (hs : 0 ≤ s ∧ s ≤ 20000000000) : stE nm ps b d v p s = 0 := by
  have e2 : stE nm ps b d v p s = firstE [firstE [(chk nm ps).2, sysE b d v], stateE ps p s] := rfl
  rw [e2, hB]
  have e3 : withinB p 0 ps.length = true := by simp only [withinB, Bool.and_eq_true, decide_eq_true_eq]; omega
  have e4 : withinB s 0 20000000000 = true := by simp only [withinB, Bool.and_eq_true, decide_eq_true_eq]; omega
  unfold stateE
  rw [e3, e4]; rfl
/-- What holds of a run to a stop that is reached. -/
theorem trip_run {nm : ByteArray} {ps : List Piece} {b d v i x s : Int} (hR : trackR ps) (hS : sysR b d v) (hB : firstE [(chk nm ps).2, sysE b d v] = 0) (h0 : 0 ≤ i) (hx : 0 ≤ x ∧ x ≤ 20000000000)
    (hc : 0 ≤ s ∧ i ≤ s ∧ s < ps.length ∧ (ps.getD s.toNat default).leave = true ∧ (runW ps b d s i x).2 = 0) :
    runE nm ps b d v i x s = 0 ∧ (runW ps b d s i x).1.length = (s - i).toNat + 1 ∧ (runW ps b d s i x).1.getD 0 default = x ∧ (0 ≤ (runW ps b d s i x).1.getD (s - i).toNat default ∧ (runW ps b d s i x).1.getD (s - i).toNat default ≤ 20000000000) ∧
    (∀ j : Nat, j ≤ (s - i).toNat → (runW ps b d s i x).1.getD j default ≤ limW ps (i.toNat + j)) ∧ stE nm ps b d v s ((runW ps b d s i x).1.getD (s - i).toNat default) = 0 ∧
    (b + 10 * (ps.getD s.toNat default).grad ≤ 0 → (runW ps b d s i x).1.getD (s - i).toNat default = 0) ∧ (0 < b + 10 * (ps.getD s.toNat default).grad → (stW ps b s ((runW ps b d s i x).1.getD (s - i).toNat default)).2 = 0 ∧ sumL ps s.toNat ≤ (stW ps b s ((runW ps b d s i x).1.getD (s - i).toNat default)).1.1 ∧ (stW ps b s ((runW ps b d s i x).1.getD (s - i).toNat default)).1.1 ≤ (stW ps b s ((runW ps b d s i x).1.getD (s - i).toNat default)).1.2 ∧ (stW ps b s ((runW ps b d s i x).1.getD (s - i).toNat default)).1.2 ≤ sumL ps (s.toNat + 1)) := by
  obtain ⟨c1, c2, c3, c4, c5⟩ := hc
  obtain ⟨r1, r2, r3⟩ := hR
  obtain ⟨s1, s2, s3, s4⟩ := hS
  have hst : stateE ps i x = 0 := by
    have e3 : withinB i 0 ps.length = true := by simp only [withinB, Bool.and_eq_true, decide_eq_true_eq]; omega
    have e4 : withinB x 0 20000000000 = true := by simp only [withinB, Bool.and_eq_true, decide_eq_true_eq]; omega
    unfold stateE
    rw [e3, e4]; rfl
  have hsp : stopE ps s = 0 := by
    have e3 : withinB s 0 (ps.length - 1) = true := by simp only [withinB, Bool.and_eq_true, decide_eq_true_eq]; omega
    unfold stopE
    rw [if_pos e3, c4]; rfl
  obtain ⟨a1, a2, a3⟩ := run_along (v := v) r1 s2.1 s4 s3.1 h0 c2 hx c5
  obtain ⟨z1, z2, z3, z4, z5⟩ := a3 (s - i).toNat (Nat.le_refl _)
  rw [show i.toNat + (s - i).toNat = s.toNat by omega] at z3
  have hsa := stands_at r1 (b := b) (stop := s) (s := (runW ps b d s i x).1.getD (s - i).toNat default) c1 c3 z1.1 z3
  exact ⟨(runE_zero hB hst hsp c2).1, a1, a2, z1, fun j hj => (a3 j hj).2.1, stE_of hB (by omega) z1, hsa.1, hsa.2⟩
theorem fas_two (ps : List Piece) (b v e0 e1 : Int) : (fasW ps b v e0 e1).2 = 0 ∨ (fasW ps b v e0 e1).2 = 12 := by
  unfold fasW
  split
  · exact Or.inr rfl
  · split
    · exact Or.inr rfl
    · exact Or.inl rfl
end Go.Proofs.Ytonjcljnpcmenaa

