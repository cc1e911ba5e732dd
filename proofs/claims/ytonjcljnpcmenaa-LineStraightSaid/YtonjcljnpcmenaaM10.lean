/- Texts of this claim, one behind the other: lemmas for the statement. -/
import Derived.Test.YtonjcljnpcmenaaM7
import Derived.Test.YtonjcljnpcmenaaM9
import Derived.Test.YtonjcljnpcmenaaA31
import Derived.Test.YtonjcljnpcmenaaM8
/- Contracts of chapter 1: a line held against itself; how far surveys and warmth move ranges. No conditions on a program. -/
namespace Go.Proofs.Ytonjcljnpcmenaa
open Go Go.RowKit Go.Proofs
set_option linter.unusedSimpArgs false
set_option linter.unusedVariables false
end Go.Proofs.Ytonjcljnpcmenaa

/- The law of chapter 1 on surveys and warmth. No conditions on a program. -/
namespace Go.Proofs.Ytonjcljnpcmenaa
open Go Go.RowKit Go.Proofs
set_option linter.unusedSimpArgs false
set_option linter.unusedVariables false
/-- A contract, its arguments told in another way. -/
theorem FnOk.retold {P : Program} {f : FuncId} {us bs : List AV} {ψ : AV → Prop} (h : FnOk P f bs ψ) (hl : us.length = bs.length) (hle : ∀ (i : Nat) (a b : AV), us[i]? = some a → bs[i]? = some b → ∀ (pr : Nat → Prop) (w : World) (x : Value), R0 pr w a x → R0 pr w b x) : FnOk P f us ψ := by
  intro pr w vs h1 h2
  refine h pr w vs (by rw [h1, hl]) fun i b x hb hx => ?_
  have hi : i < us.length := by rw [hl]; exact (List.getElem?_eq_some_iff.1 hb).1
  exact hle i _ b (List.getElem?_eq_getElem hi) hb pr w x (h2 i _ x (List.getElem?_eq_getElem hi) hx)
theorem r0l_same {a b : AV} (h : a = b) : ∀ (pr : Nat → Prop) (w : World) (x : Value), R0 pr w a x → R0 pr w b x := fun _ _ _ hx => h ▸ hx
theorem r0l_nil {k : Nat} : ∀ (pr : Nat → Prop) (w : World) (x : Value), R0 pr w (.v (.slice none 0 0)) x → R0 pr w (.row k []) x := fun _ _ _ hx => by
  cases hx; exact .nil _ _ _
theorem r0l_agg {l m : List AV} (hl : l.length = m.length) (h : ∀ (i : Nat) (a b : AV), l[i]? = some a → m[i]? = some b → ∀ (pr : Nat → Prop) (w : World) (x : Value), R0 pr w a x → R0 pr w b x) : ∀ (pr : Nat → Prop) (w : World) (x : Value), R0 pr w (.agg l) x → R0 pr w (.agg m) x := fun pr w x hx => by
  cases hx with
  | agg _ xs h1 h2 =>
    refine .agg _ _ (by rw [h1, hl]) fun i b y hb hy => ?_
    have hi : i < l.length := by rw [hl]; exact (List.getElem?_eq_some_iff.1 hb).1
    exact h i _ b (List.getElem?_eq_getElem hi) hb pr w y (h2 i _ y (List.getElem?_eq_getElem hi) hy)
end Go.Proofs.Ytonjcljnpcmenaa

/- Contracts of chapter 1: lines copied with two rows of one's own; switches of right lines. No conditions on a program. -/
namespace Go.Proofs.Ytonjcljnpcmenaa
open Go Go.RowKit Go.Proofs
set_option linter.unusedSimpArgs false
set_option linter.unusedVariables false
end Go.Proofs.Ytonjcljnpcmenaa

/- Contracts of chapter 1: the branch of a switch. No conditions on a program. -/
namespace Go.Proofs.Ytonjcljnpcmenaa
open Go Go.RowKit Go.Proofs
set_option linter.unusedSimpArgs false
set_option linter.unusedVariables false
/-- A joint that stands elsewhere across. -/
def Jnt.at (j : Jnt) (n : Int) : Jnt := ⟨n, j.up, j.lo, j.hi⟩
theorem set_at (js : List Jnt) (i : Nat) (n : Int) (j : Jnt) : (js.map jnE).set i [AV.v (.int .i64 n), AV.v (.int .i64 j.up), AV.v (.int .i64 j.lo), AV.v (.int .i64 j.hi)] = (js.set i (j.at n)).map jnE := by simp [List.map_set, jnE, Jnt.at]
end Go.Proofs.Ytonjcljnpcmenaa

/- Contracts of chapter 1: two lines as one. No conditions on a program. -/
namespace Go.Proofs.Ytonjcljnpcmenaa
open Go Go.RowKit Go.Proofs
set_option linter.unusedSimpArgs false
set_option linter.unusedVariables false
theorem y67_az26 : (Try.prog.info? 26).bind (·.zero) = some (.agg #[.string ByteArray.empty, .slice none 0 0, .slice none 0 0, .slice none 0 0]) := by kernel_rfl
theorem y67_az91 : (Try.prog.info? 91).bind (·.zero) = some (.agg #[.string ByteArray.empty, .int .i64 0, .slice none 0 0]) := by kernel_rfl
theorem y67_fl26_1 : FldIs Try.prog 26 1 1 false 1 := by unfold FldIs; kernel_rfl
theorem y67_fl26_2 : FldIs Try.prog 26 2 2 false 1 := by unfold FldIs; kernel_rfl
theorem y67_fl26_3 : FldIs Try.prog 26 3 3 false 1 := by unfold FldIs; kernel_rfl
theorem y67_fl91_2 : FldIs Try.prog 91 2 2 false 1 := by unfold FldIs; kernel_rfl
theorem y67_hcf75 : ∀ args w, (callFunc 75 args).run Try.prog w = .ok (.enter 75 args) w := fun _ _ => by kernel_rfl
theorem y67_sl22 : SlIs Try.prog 22 70 4 32 (.agg #[.int .i64 0, .int .i64 0, .int .i64 0, .int .i64 0]) := ⟨by kernel_rfl, by kernel_rfl, by kernel_rfl⟩
theorem y67_sl23 : SlIs Try.prog 23 87 2 16 (.agg #[.int .i64 0, .int .i64 0]) := ⟨by kernel_rfl, by kernel_rfl, by kernel_rfl⟩
theorem y67_sl24 : SlIs Try.prog 24 91 3 48 (.agg #[.string ByteArray.empty, .int .i64 0, .slice none 0 0]) := ⟨by kernel_rfl, by kernel_rfl, by kernel_rfl⟩
theorem y67_sz22 : (Try.prog.info? 22).map (·.size) = some 1 := by kernel_rfl
theorem y67_sz23 : (Try.prog.info? 23).map (·.size) = some 1 := by kernel_rfl
theorem y67_sz24 : (Try.prog.info? 24).map (·.size) = some 1 := by kernel_rfl
theorem y67_sz26 : (Try.prog.info? 26).map (·.size) = some 4 := by kernel_rfl
theorem y67_sz49 : (Try.prog.info? 49).map (·.size) = some 1 := by kernel_rfl
theorem y67_sz91 : (Try.prog.info? 91).map (·.size) = some 3 := by kernel_rfl
theorem y67_ty22 : TyIs Try.prog 22 false 1 := ⟨by kernel_rfl, by kernel_rfl⟩
theorem y67_ty23 : TyIs Try.prog 23 false 1 := ⟨by kernel_rfl, by kernel_rfl⟩
theorem y67_ty24 : TyIs Try.prog 24 false 1 := ⟨by kernel_rfl, by kernel_rfl⟩
theorem y67_ty26 : TyIs Try.prog 26 true 4 := ⟨by kernel_rfl, by kernel_rfl⟩
theorem y67_ty49 : TyIs Try.prog 49 false 1 := ⟨by kernel_rfl, by kernel_rfl⟩
theorem y67_ty91 : TyIs Try.prog 91 true 3 := ⟨by kernel_rfl, by kernel_rfl⟩

set_option maxRecDepth 100000 in
set_option maxHeartbeats 4000000 in
theorem copyTwo_ok (l : Lin) (hl : Sho l) (hf : Ful l) : FnRow2 Try.prog 18 [lnA l] 70 4 (l.js.map jnE) 87 2 (l.bs.map beE) [.a (.v (.string l.nam)), .one, .two, .a (.row 3 (l.ss.map swE))] := by
  obtain ⟨h1, h2, h3, h4, h5⟩ := id hl
  have h0 := hf.1
  have h6 := hf.2.1
  refine fnRow2_of (fn := Try.f18) 39 (by kernel_rfl) rfl (by kernel_rfl) (Nat.le_of_ble_eq_true rfl) (by exact ⟨jnE_plain l.js, beE_plain l.bs⟩) rfl ?_
  intro e_0 m_0 hA hm_0
  have s0_0 : evA e_0 (.tmp 0) = _ := hA 0 _ rfl
  have ml_0 : m_0.length = 0 := by rw [hm_0]; rfl
  clear hA hm_0
  refine aw_seq <| at_ <| al_stm (st_box s0_0 rfl ml_0) trivial rfl (fun m_1 hm_1 => ?_)
  have mo0_1 := m_push hm_1 ml_0
  have ml_1 := m_push_l hm_1 ml_0
  have ml_1 : _ = 1 := ml_1
  clear hm_1
  refine al_stm (st_alloc y67_az26 rfl ml_1) trivial rfl (fun m_2 hm_2 => ?_)
  have mo1_2 := m_push hm_2 ml_1
  simp only [pS, Value.cells, Nat.reduceAdd, swE, one_swE, app_m] at mo1_2
  have mo0_2 := m_push_o hm_2 mo0_1
  have ml_2 := m_push_l hm_2 ml_1
  have ml_2 : _ = 2 := ml_2
  clear hm_2 mo0_1
  refine ae2 (up_m rfl up_h) up_h ?_; clear s0_0; intro e_3 s1_3 s2_3
  refine then_n <| aw_seq <| at_ <| ar (ro_lit0 y67_sl22) rfl <| ar (ro_fld_ptr y67_fl26_1 rfl (up_m rfl s1_3)) rfl <| ar (ro_eq (ro_ld_ptr y67_ty22 rfl mo0_2 up_h (nle rfl)) (by simp only [pS, Value.cells, Nat.reduceAdd, swE, one_swE, app_m] <;> rfl)) rfl ?_
  refine al_stm (st_ape (by first | simpa using h0 | simpa using h6) (by first | exact jnE_plain l.js | exact beE_plain l.bs) ml_2 y67_sl22 rfl (u2 rfl up_h) up_h (by simp only [lnS] <;> omega)) trivial rfl (fun m_4 hm_4 => ?_)
  have mo2_4 := m_push hm_4 ml_2
  have mo1_4 := m_push_o hm_4 mo1_2
  have mo0_4 := m_push_o hm_4 mo0_2
  have ml_4 := m_push_l hm_4 ml_2
  have ml_4 : _ = 3 := ml_4
  clear hm_4 mo1_2 mo0_2
  refine ar (ro_fld_ptr y67_fl26_1 rfl (u4 rfl s1_3)) rfl <| al_stm (st_store_own up_h (up_m rfl up_h) mo0_4 mo2_4 y67_sz22 (nle rfl)) trivial rfl (fun m_5 hm_5 => ?_)
  have mo0_5 := m_set hm_5 mo0_4
  simp only [pS, Value.cells, Nat.reduceAdd, swE, one_swE, app_m] at mo0_5
  have mo2_5 := m_set_o hm_5 mo2_4 (by decide)
  have mo1_5 := m_set_o hm_5 mo1_4 (by decide)
  have ml_5 := m_set_l hm_5 ml_4
  clear hm_5 mo2_4 mo1_4 mo0_4
  refine ae2 (up_n (up_m rfl (u4 rfl s1_3))) (up_n (up_m rfl (u4 rfl s2_3))) ?_; clear s1_3 s2_3; intro e_6 s1_6 s2_6
  refine then_n <| aw_seq <| at_ <| ar (ro_lit0 y67_sl23) rfl <| ar (ro_fld_ptr y67_fl26_2 rfl (up_m rfl s1_6)) rfl <| ar (ro_eq (ro_ld_ptr y67_ty23 rfl mo0_5 up_h (nle rfl)) (by simp only [pS, Value.cells, Nat.reduceAdd, swE, one_swE, app_m] <;> rfl)) rfl ?_
  refine al_stm (st_ape (by first | simpa using h0 | simpa using h6) (by first | exact jnE_plain l.js | exact beE_plain l.bs) ml_5 y67_sl23 rfl (u2 rfl up_h) up_h (by simp only [lnS] <;> omega)) trivial rfl (fun m_7 hm_7 => ?_)
  have mo3_7 := m_push hm_7 ml_5
  have mo0_7 := m_push_o hm_7 mo0_5
  have mo2_7 := m_push_o hm_7 mo2_5
  have mo1_7 := m_push_o hm_7 mo1_5
  have ml_7 := m_push_l hm_7 ml_5
  have ml_7 : _ = 4 := ml_7
  clear hm_7 mo0_5 mo2_5 mo1_5
  refine ar (ro_fld_ptr y67_fl26_2 rfl (u4 rfl s1_6)) rfl <| al_stm (st_store_own up_h (up_m rfl up_h) mo0_7 mo3_7 y67_sz23 (nle rfl)) trivial rfl (fun m_8 hm_8 => ?_)
  have mo0_8 := m_set hm_8 mo0_7
  simp only [pS, Value.cells, Nat.reduceAdd, swE, one_swE, app_m] at mo0_8
  have mo3_8 := m_set_o hm_8 mo3_7 (by decide)
  have mo2_8 := m_set_o hm_8 mo2_7 (by decide)
  have mo1_8 := m_set_o hm_8 mo1_7 (by decide)
  have ml_8 := m_set_l hm_8 ml_7
  clear hm_8 mo3_7 mo0_7 mo2_7 mo1_7
  refine ae2 (up_n (up_m rfl (u4 rfl s1_6))) (up_n (up_m rfl (u4 rfl s2_6))) ?_; clear s1_6 s2_6; intro e_9 s1_9 s2_9
  refine then_n <| aw_seq <| at_ <| ar (ro_assign ev_c) rfl <| ae3 (up_m rfl s1_9) (up_m rfl s2_9) up_h ?_; clear s1_9 s2_9; intro e_10 s1_10 s2_10 s3_10
  refine then_n <| aw_seq <| aw_seq <| at_ <| ar (ro_assign ev_c) rfl <| ae4 (up_m rfl s1_10) (up_m rfl s2_10) (up_m rfl s3_10) up_h ?_; clear s1_10 s2_10 s3_10; intro e_11 s1_11 s2_11 s3_11 s4_11
  refine then_n <| aw_block <| aw_adopt 91 3 s3_11 ml_8 (fun m_12 e_12 hm_12 he_12 => ?_)
  have mo4_12 := m_push hm_12 ml_8
  have mo0_12 := m_push_o hm_12 mo0_8
  have mo3_12 := m_push_o hm_12 mo3_8
  have mo2_12 := m_push_o hm_12 mo2_8
  have mo1_12 := m_push_o hm_12 mo1_8
  have ml_12 := m_push_l hm_12 ml_8
  have ml_12 : _ = 5 := ml_12
  have s1_12 : evA e_12 (.tmp 1) = _ := (congrArg (fun q => evA q (.tmp 1)) he_12).trans (up_m rfl s1_11)
  have s2_12 : evA e_12 (.tmp 2) = _ := (congrArg (fun q => evA q (.tmp 2)) he_12).trans (up_m rfl s2_11)
  have s3_12 : evA e_12 (.tmp 3) = _ := (congrArg (fun q => evA q (.tmp 3)) he_12).trans up_h
  have s4_12 : evA e_12 (.tmp 4) = _ := (congrArg (fun q => evA q (.tmp 4)) he_12).trans (up_m rfl s4_11)
  clear hm_12 he_12
  refine aw_loop (S := (Int × List Swi)) (fun s e mem => match s with | ⟨k, xs⟩ => (evA e (.tmp 4) = .v (.int .i64 k)) ∧ (evA e (.tmp 1) = evA e_12 (.tmp 1)) ∧ (evA e (.tmp 2) = evA e_12 (.tmp 2)) ∧ (mem[0]? = m_12[0]?) ∧ (mem[3]? = m_12[3]?) ∧ (mem[2]? = m_12[2]?) ∧ (mem[1]? = m_12[1]?) ∧ (∃ j, evA e (.tmp 3) = .own j ∧ mem[j]? = some (.row 91 3 (xs.map swE)) ∧ j ≠ 0 ∧ j ≠ 3 ∧ j ≠ 2 ∧ j ≠ 1) ∧ (∃ n, mem.length = n ∧ 5 ≤ n) ∧ ((0 ≤ k ∧ k ≤ l.ss.length ∧ xs = l.ss.take k.toNat))) (fun s => match s with | ⟨k, xs⟩ => (l.ss.length - k).toNat) ⟨_, []⟩ ⟨s4_12, rfl, rfl, rfl, rfl, rfl, rfl, ⟨_, s3_12, mo4_12, (by decide), (by decide), (by decide), (by decide)⟩, ⟨_, ml_12, Nat.le_refl _⟩, ?_⟩ ?_
  · (exact ⟨by omega, by omega, rfl⟩)
  · rintro ⟨k, xs⟩ e_13 m_13 ⟨s4_13, k1_13, k2_13, mk0_13, mk3_13, mk2_13, mk1_13, ⟨j3_13, s3_13, mo_j3_13, nj3_0_13, nj3_3_13, nj3_2_13, nj3_1_13⟩, ⟨n_13, ml_13, hn_13⟩, hinv⟩
    have s1_13 := k1_13.trans s1_12
    have s2_13 := k2_13.trans s2_12
    have mo0_13 := mk0_13.trans mo0_12
    have mo3_13 := mk3_13.trans mo3_12
    have mo2_13 := mk2_13.trans mo2_12
    have mo1_13 := mk1_13.trans mo1_12
    have jl3_13 := m_lt mo_j3_13 ml_13
    (obtain ⟨p1, p2, p3⟩ := hinv; have hso := hl.at k.toNat; have hxl : xs.length ≤ 1000000 := (by rw [p3, List.length_take]; omega))
    refine aw_seq <| aw_seq <| at_ <| ar (ro_move s4_13) rfl <| ar (ro_fld_ptr y67_fl26_3 rfl (up_m rfl s1_13)) rfl <| ar (ro_eq (ro_ld_ptr y67_ty24 rfl mo0_13 up_h (nle rfl)) (by simp only [pS, Value.cells, Nat.reduceAdd, swE, one_swE, app_m] <;> rfl)) rfl ?_
    refine ar (ro_eq (ro_len_row up_h rfl y67_sl24.1) (by simp only [lnS] <;> rfl)) rfl ?_
    refine ar (ro_lss (up_m rfl (u2 rfl up_h)) up_h) rfl <| ae5 (up_m rfl (u4 rfl s1_13)) (up_m rfl (u4 rfl s2_13)) (up_m rfl (u4 rfl s3_13)) (up_m rfl (u4 rfl s4_13)) up_h ?_; clear s1_13 s2_13 s3_13 s4_13; intro e_14 s1_14 s2_14 s3_14 s4_14 s20_14
    refine then_n <| aw_case s20_14 (fun hq_15 => ?_) (fun hq_15 => ?_)
    ·replace hq_15 := bt hq_15
     refine aw_skip <| then_n <| aw_seq <| aw_block <| aw_seq <| at_ <| ar (ro_fld_ptr y67_fl26_3 rfl s1_14) rfl <| ar (ro_eq (ro_ld_ptr y67_ty24 rfl mo0_13 up_h (nle rfl)) (by simp only [pS, Value.cells, Nat.reduceAdd, swE, one_swE, app_m] <;> rfl)) rfl ?_
     refine ar (ro_move (u2 rfl s4_14)) rfl <| ar (ro_eq (ro_ix y67_sl24 (up_m rfl up_h) up_h (by omega) (by first | (refine idx_map ?_; first | omega | (simp only [lnS]; omega)) | (refine idx_mapI ?_; first | omega | (simp only [lnS]; omega)) | (refine idx_mapN ?_; first | omega | (simp only [lnS]; omega)) | rfl)) (by simp only [pS, Value.cells, Nat.reduceAdd, swE, one_swE, app_m] <;> rfl)) rfl ?_
     refine ar (ro_eq (ro_ld_ref y67_ty91 rfl up_h (nle rfl)) (by simp only [pS, Value.cells, Nat.reduceAdd, swE, one_swE, app_m] <;> rfl)) rfl ?_
     refine al_stm (st_alloc y67_az91 rfl ml_13) trivial rfl (fun m_16 hm_16 => ?_)
     have mon_13_16 := m_push hm_16 ml_13
     simp only [pS, Value.cells, Nat.reduceAdd, swE, one_swE, app_m] at mon_13_16
     have mo0_16 := m_push_o hm_16 mo0_13
     have mo3_16 := m_push_o hm_16 mo3_13
     have mo2_16 := m_push_o hm_16 mo2_13
     have mo1_16 := m_push_o hm_16 mo1_13
     have moj3_13_16 := m_push_o hm_16 mo_j3_13
     have ml_16 := m_push_l hm_16 ml_13
     clear hm_16 mo0_13 mo3_13 mo2_13 mo1_13 mo_j3_13
     refine al_stm (st_store up_h (up_m rfl up_h) rfl rfl mon_13_16 y67_sz91 rfl (nle rfl)) trivial rfl (fun m_17 hm_17 => ?_)
     have mon_13_17 := m_set hm_17 mon_13_16
     simp only [pS, Value.cells, Nat.reduceAdd, swE, one_swE, app_m] at mon_13_17
     have mo0_17 := m_set_o hm_17 mo0_16 (by omega)
     have mo3_17 := m_set_o hm_17 mo3_16 (by omega)
     have mo2_17 := m_set_o hm_17 mo2_16 (by omega)
     have mo1_17 := m_set_o hm_17 mo1_16 (by omega)
     have moj3_13_17 := m_set_o hm_17 moj3_13_16 (by omega)
     have ml_17 := m_set_l hm_17 ml_16
     clear hm_17 mon_13_16 mo0_16 mo3_16 mo2_16 mo1_16 moj3_13_16
     refine ae5 (up_n (u2 rfl (u4 rfl s1_14))) (up_n (u2 rfl (u4 rfl s2_14))) (up_n (u2 rfl (u4 rfl s3_14))) (up_n (u2 rfl (u4 rfl s4_14))) (up_n up_h) ?_; clear s1_14 s20_14 s2_14 s3_14 s4_14; intro e_18 s1_18 s2_18 s3_18 s4_18 s5_18
     refine then_n <| aw_seq <| at_ <| ar (ro_fld_ptr y67_fl91_2 rfl s5_18) rfl <| ar (ro_eq (ro_ld_ptr y67_ty49 rfl mon_13_17 up_h (nle rfl)) (by simp only [pS, Value.cells, Nat.reduceAdd, swE, one_swE, app_m] <;> rfl)) rfl ?_
     refine ar (ro_call (evL_cons up_h evL_nil) rfl (yCopyInts_ok _ (by omega)) y67_hcf75) rfl ?_
     refine ar (ro_fld_ptr y67_fl91_2 rfl (up_m rfl (u2 rfl s5_18))) rfl <| al_stm (st_store up_h (up_m rfl up_h) rfl rfl mon_13_17 y67_sz49 rfl (nle rfl)) trivial rfl (fun m_19 hm_19 => ?_)
     have mon_13_19 := m_set hm_19 mon_13_17
     simp only [pS, Value.cells, Nat.reduceAdd, swE, one_swE, app_m] at mon_13_19
     have mo0_19 := m_set_o hm_19 mo0_17 (by omega)
     have mo3_19 := m_set_o hm_19 mo3_17 (by omega)
     have mo2_19 := m_set_o hm_19 mo2_17 (by omega)
     have mo1_19 := m_set_o hm_19 mo1_17 (by omega)
     have moj3_13_19 := m_set_o hm_19 moj3_13_17 (by omega)
     have ml_19 := m_set_l hm_19 ml_17
     clear hm_19 mon_13_17 mo0_17 mo3_17 mo2_17 mo1_17 moj3_13_17
     refine ae5 (up_n (u4 rfl s1_18)) (up_n (u4 rfl s2_18)) (up_n (u4 rfl s3_18)) (up_n (u4 rfl s4_18)) (up_n (u4 rfl s5_18)) ?_; clear s1_18 s2_18 s3_18 s4_18 s5_18; intro e_20 s1_20 s2_20 s3_20 s4_20 s5_20
     refine then_n <| at_ <| ar (ro_move s3_20) rfl <| ar (ro_eq (ro_ld_ptr y67_ty91 rfl mon_13_19 (up_m rfl s5_20) (nle rfl)) (by simp only [pS, Value.cells, Nat.reduceAdd, swE, one_swE, app_m] <;> rfl)) rfl ?_
     refine ar (ro_lit y67_sl24 (evP_cons up_h evP_nil) rfl rfl rfl rfl) rfl <| al_stm (st_app y67_sl24 rfl ml_19 moj3_13_19 (u2 rfl up_h) up_h (by rfl) (by simp only [lnS] <;> omega)) trivial rfl (fun m_21 hm_21 => ?_)
     have mon_13_1_21 := m_swap hm_21 ml_19
     simp only [pS, Value.cells, Nat.reduceAdd, swE, one_swE, app_m] at mon_13_1_21
     have mon_13_21 := m_swap_o hm_21 mon_13_19 (by omega)
     have mo0_21 := m_swap_o hm_21 mo0_19 (by omega)
     have mo3_21 := m_swap_o hm_21 mo3_19 (by omega)
     have mo2_21 := m_swap_o hm_21 mo2_19 (by omega)
     have mo1_21 := m_swap_o hm_21 mo1_19 (by omega)
     have ml_21 := m_swap_l hm_21 ml_19
     clear hm_21 mon_13_19 mo0_19 mo3_19 mo2_19 mo1_19 moj3_13_19
     refine ar (ro_assign up_h) rfl <| ae4 (up_m rfl (u4 rfl s1_20)) (up_m rfl (u4 rfl s2_20)) up_h (up_m rfl (u4 rfl s4_20)) ?_; clear s1_20 s2_20 s3_20 s4_20 s5_20; intro e_22 s1_22 s2_22 s3_22 s4_22
     refine block_n <| then_n <| at_ <| ar (ro_move s4_22) rfl ?_
     (refine ar (ro_add' up_h ev_c ?_) rfl ?_; · (unfold In64; omega))
     refine ar (ro_assign up_h) rfl <| ae4 (up_m rfl (u2 rfl s1_22)) (up_m rfl (u2 rfl s2_22)) (up_m rfl (u2 rfl s3_22)) up_h ?_; clear s1_22 s2_22 s3_22 s4_22; intro e_23 s1_23 s2_23 s3_23 s4_23
     refine then_n <| ⟨⟨_, _⟩, ⟨s4_23, (s1_23.trans s1_12.symm), (s2_23.trans s2_12.symm), (mo0_21.trans mo0_12.symm), (mo3_21.trans mo3_12.symm), (mo2_21.trans mo2_12.symm), (mo1_21.trans mo1_12.symm), ⟨_, s3_23, mon_13_1_21, (by omega), (by omega), (by omega), (by omega)⟩, ⟨_, ml_21, by omega⟩, ?_⟩, ?_⟩
     · (refine ⟨by omega, by omega, ?_⟩; rw [take_suc p1 (by omega), ← p3])
     · ((try dsimp only); omega)
    replace hq_15 := bf hq_15
    (have hx : xs = l.ss := (by rw [p3, List.take_of_length_le (by omega)]); clear p3; subst hx)
    refine aw_exit <| then_x <| then_x <| block_hit <| then_n <| aw_seq <| aw_freezeR s3_14 mo_j3_13 (fun m_24 e_24 hm_24 he_24 => ?_)
    have mo0_24 := m_set_o hm_24 mo0_13 (by omega)
    have mo3_24 := m_set_o hm_24 mo3_13 (by omega)
    have mo2_24 := m_set_o hm_24 mo2_13 (by omega)
    have mo1_24 := m_set_o hm_24 mo1_13 (by omega)
    have ml_24 := m_set_l hm_24 ml_13
    have s1_24 : evA e_24 (.tmp 1) = _ := (congrArg (fun q => evA q (.tmp 1)) he_24).trans (up_m rfl s1_14)
    have s2_24 : evA e_24 (.tmp 2) = _ := (congrArg (fun q => evA q (.tmp 2)) he_24).trans (up_m rfl s2_14)
    have s3_24 : evA e_24 (.tmp 3) = _ := (congrArg (fun q => evA q (.tmp 3)) he_24).trans up_h
    have s4_24 : evA e_24 (.tmp 4) = _ := (congrArg (fun q => evA q (.tmp 4)) he_24).trans (up_m rfl s4_14)
    have s20_24 : evA e_24 (.tmp 20) = _ := (congrArg (fun q => evA q (.tmp 20)) he_24).trans (up_m rfl s20_14)
    clear hm_24 he_24
    refine at_ <| ar (ro_move s3_24) rfl <| ar (ro_fld_ptr y67_fl26_3 rfl (up_m rfl s1_24)) rfl <| al_stm (st_store up_h (up_m rfl up_h) rfl rfl mo0_24 y67_sz24 rfl (nle rfl)) trivial rfl (fun m_25 hm_25 => ?_)
    have mo0_25 := m_set hm_25 mo0_24
    simp only [pS, Value.cells, Nat.reduceAdd, swE, one_swE, app_m] at mo0_25
    have mo3_25 := m_set_o hm_25 mo3_24 (by decide)
    have mo2_25 := m_set_o hm_25 mo2_24 (by decide)
    have mo1_25 := m_set_o hm_25 mo1_24 (by decide)
    have ml_25 := m_set_l hm_25 ml_24
    clear hm_25 mo0_24 mo3_24 mo2_24 mo1_24
    refine ae2 (up_n (u2 rfl s1_24)) (up_n (u2 rfl s2_24)) ?_; clear s1_24 s20_24 s2_24 s3_24 s4_24; intro e_26 s1_26 s2_26
    refine then_n <| aw_seq <| at_ <| ar (ro_eq (ro_ld_ptr y67_ty26 rfl mo0_25 s1_26 (nle rfl)) (by simp only [pS, Value.cells, Nat.reduceAdd, swE, one_swE, app_m] <;> rfl)) rfl ?_
    refine al_stm (st_storeO (up_m rfl s2_26) up_h rfl (oneL_c rfl (oneL_o mo2_25 (oneL_o mo3_25 (oneL_c rfl oneL_nil)))) mo1_25 y67_sz26 rfl (nle rfl)) trivial rfl (fun m_27 hm_27 => ?_)
    have mo1_27 := m_set hm_27 mo1_25
    simp only [pS, Value.cells, Nat.reduceAdd, swE, one_swE, app_m] at mo1_27
    have mo0_27 := m_set_o hm_27 mo0_25 (by decide)
    have mo3_27 := m_set_o hm_27 mo3_25 (by decide)
    have mo2_27 := m_set_o hm_27 mo2_25 (by decide)
    have ml_27 := m_set_l hm_27 ml_25
    clear hm_27 mo0_25 mo3_25 mo2_25 mo1_25
    refine ae1 (up_n (up_m rfl s2_26)) ?_; clear s1_26 s2_26; intro e_28 s2_28
    refine then_n <| aw_ret <| retRow2 (.inr rfl) (by kernel_rfl) (by decide) mo2_27 mo3_27 (resV_cell s2_28 mo1_27 y67_ty26 (nle rfl) (by simp)) rfl ?_
    exact ⟨rfl, rfl⟩
end Go.Proofs.Ytonjcljnpcmenaa

/- The law of chapter 1 on branches and lines that are joined. No conditions on a program. -/
namespace Go.Proofs.Ytonjcljnpcmenaa
open Go Go.RowKit Go.Proofs
set_option linter.unusedSimpArgs false
set_option linter.unusedVariables false
end Go.Proofs.Ytonjcljnpcmenaa

/- The law of chapter 1 on deviations. No conditions on a program. -/
namespace Go.Proofs.Ytonjcljnpcmenaa
open Go Go.RowKit Go.Proofs
set_option linter.unusedSimpArgs false
set_option linter.unusedVariables false
end Go.Proofs.Ytonjcljnpcmenaa

/- The law of chapter 1 on narrower ranges. No conditions on a program. -/
namespace Go.Proofs.Ytonjcljnpcmenaa
open Go Go.RowKit Go.Proofs
set_option linter.unusedSimpArgs false
set_option linter.unusedVariables false
theorem y42_fl28_2 : FldIs Try.prog 28 2 2 false 1 := by unfold FldIs; kernel_rfl
theorem y42_hcf42 : ∀ args w, (callFunc 42 args).run Try.prog w = .ok (.enter 42 args) w := fun _ _ => by kernel_rfl
theorem y42_ty26 : TyIs Try.prog 26 true 4 := ⟨by kernel_rfl, by kernel_rfl⟩
theorem y42_ty3 : TyIs Try.prog 3 false 1 := ⟨by kernel_rfl, by kernel_rfl⟩

/-- At most a hundred poses. -/
def posB (l : Lin) (u : Int) : Bool := decide ((plaP l.bs l.bs.length).tdiv u ≤ 100)
set_option maxRecDepth 100000 in
set_option maxHeartbeats 4000000 in
theorem lposes_ok (l : Lin) (h : Rgt l) (L c u : Int) (hu : 1 ≤ u) : FnOk Try.prog 16 [lnA l, vehA L c u] (fun q => q = tbA (posB l u)) := by
  refine fnOk_of (fn := Try.f16) 11 (by kernel_rfl) rfl (by kernel_rfl) (Nat.le_of_ble_eq_true rfl) ?_
  intro e_0 m_0 hA hm_0
  have s0_0 : evA e_0 (.tmp 0) = _ := hA 0 _ rfl
  have s1_0 : evA e_0 (.tmp 1) = _ := hA 1 _ rfl
  have ml_0 : m_0.length = 0 := by rw [hm_0]; rfl
  clear hA hm_0
  have hpb := h.pla (n := l.bs.length) (Nat.le_refl _); have hq1 := Int.tdiv_nonneg (a := plaP l.bs l.bs.length) (b := u) (by omega) (by omega); have hq2 := Int.tdiv_le_self u (a := plaP l.bs l.bs.length) (by omega)
  refine aw_seq <| at_ <| al_stm (st_box s0_0 rfl ml_0) trivial rfl (fun m_1 hm_1 => ?_)
  have mo0_1 := m_push hm_1 ml_0
  have ml_1 := m_push_l hm_1 ml_0
  have ml_1 : _ = 1 := ml_1
  clear hm_1
  refine al_stm (st_box (up_m rfl s1_0) rfl ml_1) trivial rfl (fun m_2 hm_2 => ?_)
  have mo1_2 := m_push hm_2 ml_1
  have mo0_2 := m_push_o hm_2 mo0_1
  have ml_2 := m_push_l hm_2 ml_1
  have ml_2 : _ = 2 := ml_2
  clear hm_2 mo0_1
  refine ar (ro_assign ev_c) rfl <| ae2 (u2 rfl up_h) (up_m rfl up_h) ?_; clear s0_0 s1_0; intro e_3 s2_3 s3_3
  refine then_n <| aw_seq <| aw_draw 7 (by kernel_rfl) (by kernel_rfl) (by kernel_rfl) (by kernel_rfl) ?_
  refine dr (ro_eq (ro_ld_ptr y42_ty26 rfl mo0_2 s2_3 (nle rfl)) (by simp only [pS, Value.cells, Nat.reduceAdd] <;> rfl)) rfl ?_
  refine dr (ro_call (evL_cons up_h evL_nil) rfl (rLengthOf_ok l (by have := h.n1; have := h.n0; omega) (fun j hj => by have := h.bea j hj; omega)) y42_hcf42) rfl ?_
  refine dr (ro_fld_ptr y42_fl28_2 rfl (u2 rfl s3_3)) rfl <| dr (ro_eq (ro_ld_ptr y42_ty3 rfl mo1_2 up_h (nle rfl)) (by simp only [pS, Value.cells, Nat.reduceAdd] <;> rfl)) rfl ?_
  (refine dr (ro_quo' (u2 rfl up_h) up_h (by omega) ?_) rfl ?_; · (unfold In64; omega))
  refine dr (ro_leq up_h ev_c) rfl <| dr (ro_assign up_h) rfl <| ds_nil <| ae1 up_h ?_; clear s2_3 s3_3; intro e_4 s4_4
  refine then_n <| aw_ret <| ret1 (.inr rfl) (by kernel_rfl) (resV_tmp s4_4) (.ro _ rfl) ?_
  clear s4_4 mo1_2 mo0_2 ml_2
  rfl
end Go.Proofs.Ytonjcljnpcmenaa

