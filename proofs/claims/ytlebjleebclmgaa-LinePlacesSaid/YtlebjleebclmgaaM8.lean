/- Texts of this claim, one behind the other: lemmas for the statement. -/
import Derived.Test.YtlebjleebclmgaaM7
import Derived.Test.YtlebjleebclmgaaM6
/- Contracts of chapter 1: the joints beneath a pose; the deviation at one. No conditions on a program. -/
namespace Go.Proofs.Ytlebjleebclmgaa
open Go Go.RowKit Go.Proofs
set_option linter.unusedSimpArgs false
set_option linter.unusedVariables false
theorem y26_az31 : (Try.prog.info? 31).bind (·.zero) = some (.int .i64 0) := by kernel_rfl
theorem y26_az60 : (Try.prog.info? 60).bind (·.zero) = some (.agg #[.int .i64 0, .int .i64 0]) := by kernel_rfl
theorem y26_az76 : (Try.prog.info? 76).bind (·.zero) = some (.pointer none) := by kernel_rfl
theorem y26_ar65 : ArIs Try.prog 65 2 1 := ⟨by kernel_rfl, by kernel_rfl⟩
theorem y26_bz60 : (Try.prog.info? 60).bind (·.zero) = some (.agg #[.int .i64 0, .int .i64 0]) := by kernel_rfl
theorem y26_bu60 : Try.prog.underlying 60 = some (.struct (fsOf Try.prog 60)) := by kernel_rfl
theorem y26_bp60 : ∀ w, ((fsOf Try.prog 60).mapM fun f => Prod.mk f.offset <$> sizeOf f.type : Sem (Array (Nat × Nat))).run Try.prog w = .ok (#[(0, 1), (1, 1)]) w := fun _ => by kernel_rfl
theorem y26_fl64_0 : FldIs Try.prog 64 0 0 false 1 := by unfold FldIs; kernel_rfl
theorem y26_fl82_1 : FldIs Try.prog 82 1 4 false 1 := by unfold FldIs; kernel_rfl
theorem y26_hcf65 : ∀ args w, (callFunc 65 args).run Try.prog w = .ok (.enter 65 args) w := fun _ _ => by kernel_rfl
theorem y26_hcf66 : ∀ args w, (callFunc 66 args).run Try.prog w = .ok (.enter 66 args) w := fun _ _ => by kernel_rfl
theorem y26_hcf67 : ∀ args w, (callFunc 67 args).run Try.prog w = .ok (.enter 67 args) w := fun _ _ => by kernel_rfl
theorem y26_hcf86 : ∀ args w, (callFunc 86 args).run Try.prog w = .ok (.enter 86 args) w := fun _ _ => by kernel_rfl
theorem y26_sl67 : SlIs Try.prog 67 3 1 8 (.int .i64 0) := ⟨by kernel_rfl, by kernel_rfl, by kernel_rfl⟩
theorem y26_sz31 : (Try.prog.info? 31).map (·.size) = some 1 := by kernel_rfl
theorem y26_sz60 : (Try.prog.info? 60).map (·.size) = some 2 := by kernel_rfl
theorem y26_sz76 : (Try.prog.info? 76).map (·.size) = some 1 := by kernel_rfl
theorem y26_ty26 : TyIs Try.prog 26 true 4 := ⟨by kernel_rfl, by kernel_rfl⟩
theorem y26_ty3 : TyIs Try.prog 3 false 1 := ⟨by kernel_rfl, by kernel_rfl⟩
theorem y26_ty31 : TyIs Try.prog 31 false 1 := ⟨by kernel_rfl, by kernel_rfl⟩
theorem y26_ty60 : TyIs Try.prog 60 true 2 := ⟨by kernel_rfl, by kernel_rfl⟩
theorem y26_ty64 : TyIs Try.prog 64 true 3 := ⟨by kernel_rfl, by kernel_rfl⟩
theorem y26_ty67 : TyIs Try.prog 67 false 1 := ⟨by kernel_rfl, by kernel_rfl⟩
theorem y26_ty76 : TyIs Try.prog 76 false 1 := ⟨by kernel_rfl, by kernel_rfl⟩

theorem filt_at {p : Nat → Bool} {i : Nat} (hp : p i = true) : ∀ {n : Nat}, i < n → ((List.range n).filter p)[((List.range i).filter p).length]? = some i
  | n + 1, hi => by
    rw [List.range_succ, List.filter_append]
    by_cases h : i = n
    · subst h
      rw [List.getElem?_append_right (Nat.le_refl _)]
      simp [hp]
    · have ih := filt_at hp (n := n) (by omega)
      rw [List.getElem?_append_left (List.getElem?_eq_some_iff.1 ih).1]; exact ih
theorem filt_succ {p : Nat → Bool} {i : Nat} : ((List.range (i + 1)).filter p).length = ((List.range i).filter p).length + if p i then 1 else 0 := by
  rw [List.range_succ, List.filter_append, List.length_append]
  cases h : p i <;> simp [h]
/-- A joint beneath a pose. -/
def benB (l : Lin) (L p : Int) (i : Nat) : Bool := decide (p < plaP l.bs i) && decide (plaP l.bs i < p + L)
def benL (l : Lin) (L p : Int) : List Nat := (List.range l.js.length).filter (benB l L p)
def benY (l : Lin) (L p : Int) : List (List AV) := (benL l L p).map fun (i : Nat) => [mA (i : Int)]
theorem benY_len (l : Lin) (L p : Int) : (benY l L p).length = (benL l L p).length := by simp [benY]
theorem benY_one {l : Lin} {L p : Int} : ∀ y ∈ benY l L p, y.length = 1 := by
  intro y hy
  obtain ⟨_, _, rfl⟩ := List.mem_map.1 hy; rfl
theorem benY_at {l : Lin} {L p j : Int} {i : Nat} (h0 : 0 ≤ j) (hj : j < l.js.length) (h1 : p < plaP l.bs j.toNat) (h2 : plaP l.bs j.toNat < p + L) (hi : i = ((List.range j.toNat).filter (benB l L p)).length) : (benY l L p)[i]? = some [.v (.int .i64 j)] := by
  subst hi
  unfold benY benL
  rw [List.getElem?_map, filt_at (by unfold benB; simp [h1, h2]) (by omega)]
  simp; omega
theorem benY_yes {l : Lin} {L p j : Int} (h0 : 0 ≤ j) (h1 : p < plaP l.bs j.toNat) (h2 : plaP l.bs j.toNat < p + L) : ((List.range (j + 1).toNat).filter (benB l L p)).length = ((List.range j.toNat).filter (benB l L p)).length + 1 := by
  rw [show (j + 1).toNat = j.toNat + 1 by omega, filt_succ, if_pos]
  unfold benB; simp [h1, h2]
theorem benY_no {l : Lin} {L p j : Int} (h0 : 0 ≤ j) (h : ¬ (p < plaP l.bs j.toNat ∧ plaP l.bs j.toNat < p + L)) : ((List.range (j + 1).toNat).filter (benB l L p)).length = ((List.range j.toNat).filter (benB l L p)).length := by
  rw [show (j + 1).toNat = j.toNat + 1 by omega, filt_succ, if_neg]; rfl
  unfold benB; simp; omega
theorem benY_of {l : Lin} {L p : Int} {i : Nat} {y : AV} (h : (benY l L p)[i]? = some [y]) : ∃ s : Nat, (benL l L p)[i]? = some s ∧ y = mA (s : Int) ∧ s < l.js.length ∧ p < plaP l.bs s ∧ plaP l.bs s < p + L := by
  unfold benY at h
  rw [List.getElem?_map] at h
  cases hs : (benL l L p)[i]? with
  | none => rw [hs] at h; cases h
  | some s =>
    rw [hs] at h
    simp only [Option.map_some, Option.some.injEq, List.cons.injEq, and_true] at h
    have hm := List.mem_of_getElem? hs
    unfold benL at hm
    rw [List.mem_filter] at hm
    obtain ⟨h1, h2⟩ := hm
    unfold benB at h2
    simp at h1 h2
    exact ⟨s, rfl, h.symm, h1, h2.1, h2.2⟩
set_option maxRecDepth 100000 in
set_option maxHeartbeats 4000000 in
theorem beneath1_gen (l : Lin) (h : Rgt l) (L c s p : Int) (hL : 1000 ≤ L ∧ L ≤ 30000) (hp : 0 ≤ p ∧ p ≤ 1200000) : GenOk Try.prog 86 [] [.ref [tkA l], .ref [mA p], .ref [mA L, mA c, mA s]] (benY l L p) := by
  refine gen_of (fn := Try.f86) 35 (by kernel_rfl) rfl (by kernel_rfl) (Nat.le_of_ble_eq_true rfl) (fun _ _ => ⟨.tuple #[], by kernel_rfl⟩) ?_
  intro lb_ e_0 hA
  have s0_0 : evA e_0 (.tmp 0) = _ := hA 0 _ rfl
  have s1_0 : evA e_0 (.tmp 1) = _ := hA 1 _ rfl
  have s2_0 : evA e_0 (.tmp 2) = _ := hA 2 _ rfl
  have s3_0 : evA e_0 (.tmp 3) = _ := hA 3 _ rfl
  clear hA
  have hn1 := h.n1; have hn0 := h.n0; have hjs := h.js; have hpl := plaL_len (bs := l.bs) (n := l.bs.length)
  refine iw_seq ?_
  refine iw_text ?_
  refine il_ro (fun _ => (ro_eq (ro_ld_ref y26_ty76 rfl s1_0 (by exact Nat.le_of_ble_eq_true rfl)) (by simp only [packA_t, packA_f, iE, bE, setAt, cellsA, Value.cells, map_vc, map_vn, Nat.reduceAdd, qS] <;> rfl))) trivial rfl ?_
  refine il_ro (fun _ => (ro_nilR up_h)) trivial rfl ?_
  refine il_ro (fun _ => (ro_eq (ro_fld_ref y26_fl82_1 rfl up_h) (by simp only [packA_t, packA_f, iE, bE, setAt, cellsA, Value.cells, map_vc, map_vn, Nat.reduceAdd, qS] <;> rfl))) trivial rfl ?_
  refine il_ro (fun _ => (ro_eq (ro_ld_ref y26_ty67 rfl up_h (by exact Nat.le_of_ble_eq_true rfl)) (by simp only [packA_t, packA_f, iE, bE, setAt, cellsA, Value.cells, map_vc, map_vn, Nat.reduceAdd, qS] <;> rfl))) trivial rfl ?_
  refine il_ro (fun _ => (ro_eq (ro_len_row up_h rfl y26_sl67.1) (by simp only [lnS] <;> rfl))) trivial rfl ?_
  refine il_ro (fun _ => (ro_move ev_c)) trivial rfl ?_
  refine il_end (fun e_1 he_1 => ?_)
  have s0_1 := ef 0 he_1 (u2 rfl (u4 rfl s0_0))
  have s2_1 := ef 2 he_1 (u2 rfl (u4 rfl s2_0))
  have s3_1 := ef 3 he_1 (u2 rfl (u4 rfl s3_0))
  have s10_1 := ef 10 he_1 (u2 rfl up_h)
  have s11_1 := ef 11 he_1 (up_m rfl up_h)
  have s12_1 := ef 12 he_1 up_h
  clear he_1 s0_0 s1_0 s2_0 s3_0
  refine theni_n ?_
  refine iw_block ?_
  refine iw_loop (S := Int) (fun j e b i => (evA e (.tmp 12) = .v (.int .i64 j)) ∧ (evA e (.tmp 0) = evA e_1 (.tmp 0)) ∧ (evA e (.tmp 2) = evA e_1 (.tmp 2)) ∧ (evA e (.tmp 3) = evA e_1 (.tmp 3)) ∧ (evA e (.tmp 10) = evA e_1 (.tmp 10)) ∧ (evA e (.tmp 11) = evA e_1 (.tmp 11)) ∧ (b = true) ∧ (i = ((List.range j.toNat).filter (benB l L p)).length) ∧ ((0 ≤ j ∧ j ≤ l.js.length))) (fun j => (l.js.length - j).toNat) _ ⟨s12_1, rfl, rfl, rfl, rfl, rfl, rfl, (by rfl), ?_⟩ ?_
  · (exact ⟨by omega, by omega⟩)
  · rintro j e_2 _ i_2 ⟨s12_2, k0_2, k2_2, k3_2, k10_2, k11_2, rfl, hix, hinv⟩
    have s0_2 := k0_2.trans s0_1
    have s2_2 := k2_2.trans s2_1
    have s3_2 := k3_2.trans s3_1
    have s10_2 := k10_2.trans s10_1
    have s11_2 := k11_2.trans s11_1
    (have p1 := hinv.1; have p2 := hinv.2)
    refine iw_seq ?_
    refine iw_text ?_
    refine il_ro (fun _ => (ro_lss s12_2 s11_2)) trivial rfl ?_
    refine il_end (fun e_3 he_3 => ?_)
    have s0_3 := ef 0 he_3 (up_m rfl s0_2)
    have s2_3 := ef 2 he_3 (up_m rfl s2_2)
    have s3_3 := ef 3 he_3 (up_m rfl s3_2)
    have s10_3 := ef 10 he_3 (up_m rfl s10_2)
    have s11_3 := ef 11 he_3 (up_m rfl s11_2)
    have s12_3 := ef 12 he_3 (up_m rfl s12_2)
    have s13_3 := ef 13 he_3 up_h
    clear he_3 s0_2 s10_2 s11_2 s12_2 s2_2 s3_2
    refine theni_n ?_
    refine iw_seq ?_
    refine iw_case s13_3 (fun hq_4 => ?_) (fun hq_4 => ?_)
    ·replace hq_4 := bt hq_4
     (have hgj := plaL_get (bs := l.bs) (n := l.bs.length) (j := j.toNat) (by omega))
     refine iw_skip ?_
     refine theni_n ?_
     refine iw_seq ?_
     refine iw_block ?_
     refine iw_seq ?_
     refine iw_text ?_
     refine il_ro (fun _ => (ro_move s12_3)) trivial rfl ?_
     refine il_ro (fun _ => (ro_eq (ro_ix y26_sl67 (up_m rfl s10_3) (up_m rfl s12_3) (by omega) (by first | (refine idx_map ?_; first | omega | (simp only [lnS]; omega)) | (refine idx_mapI ?_; first | omega | (simp only [lnS]; omega)) | (refine idx_mapN ?_; first | omega | (simp only [lnS]; omega)) | rfl)) (by simp only [packA_t, packA_f, iE, bE, setAt, cellsA, Value.cells, map_vc, map_vn, Nat.reduceAdd, qS] <;> rfl))) trivial rfl ?_
     refine il_ro (fun _ => (ro_eq (ro_ld_ref y26_ty3 rfl up_h (by exact Nat.le_of_ble_eq_true rfl)) (by simp only [packA_t, packA_f, iE, bE, setAt, cellsA, Value.cells, map_vc, map_vn, Nat.reduceAdd, qS] <;> rfl))) trivial rfl ?_
     refine il_ro (fun _ => (ro_assign (u2 rfl up_h))) trivial rfl ?_
     refine il_ro (fun _ => (ro_assign (up_m rfl up_h))) trivial rfl ?_
     refine il_end (fun e_5 he_5 => ?_)
     have s0_5 := ef 0 he_5 (up_m rfl (u4 rfl s0_3))
     have s2_5 := ef 2 he_5 (up_m rfl (u4 rfl s2_3))
     have s3_5 := ef 3 he_5 (up_m rfl (u4 rfl s3_3))
     have s5_5 := ef 5 he_5 (up_m rfl up_h)
     have s6_5 := ef 6 he_5 up_h
     have s10_5 := ef 10 he_5 (up_m rfl (u4 rfl s10_3))
     have s11_5 := ef 11 he_5 (up_m rfl (u4 rfl s11_3))
     have s12_5 := ef 12 he_5 (up_m rfl (u4 rfl s12_3))
     clear he_5 s0_3 s10_3 s11_3 s12_3 s13_3 s2_3 s3_3
     refine theni_n ?_
     refine iw_seq ?_
     refine iw_text ?_
     refine il_ro (fun _ => (ro_move s6_5)) trivial rfl ?_
     refine il_ro (fun _ => (ro_eq (ro_ld_ref y26_ty3 rfl (up_m rfl s2_5) (by exact Nat.le_of_ble_eq_true rfl)) (by simp only [packA_t, packA_f, iE, bE, setAt, cellsA, Value.cells, map_vc, map_vn, Nat.reduceAdd, qS] <;> rfl))) trivial rfl ?_
     refine il_ro (fun _ => (ro_gtr (up_m rfl up_h) up_h)) trivial rfl ?_
     refine il_ro (fun _ => (ro_move up_h)) trivial rfl ?_
     refine il_case up_h (fun hb_6 hq_6 => ?_) (fun hb_6 hq_6 => ?_)
     ·replace hq_6 := bt hq_6
      refine il_ro (fun _ => (ro_move (u4 rfl s6_5))) ⟨_, rfl, hb_6⟩ rfl ?_
      refine il_ro (fun _ => (ro_eq (ro_ld_ref y26_ty3 rfl (up_m rfl (u4 rfl s2_5)) (by exact Nat.le_of_ble_eq_true rfl)) (by simp only [packA_t, packA_f, iE, bE, setAt, cellsA, Value.cells, map_vc, map_vn, Nat.reduceAdd, qS] <;> rfl))) ⟨_, rfl, (up_m rfl hb_6)⟩ rfl ?_
      refine il_ro (fun _ => (ro_eq (ro_fld_ref y26_fl64_0 rfl (u2 rfl (u4 rfl s3_5))) (by simp only [packA_t, packA_f, iE, bE, setAt, cellsA, Value.cells, map_vc, map_vn, Nat.reduceAdd, qS] <;> rfl))) ⟨_, rfl, (u2 rfl hb_6)⟩ rfl ?_
      refine il_ro (fun _ => (ro_eq (ro_ld_ref y26_ty3 rfl up_h (by exact Nat.le_of_ble_eq_true rfl)) (by simp only [packA_t, packA_f, iE, bE, setAt, cellsA, Value.cells, map_vc, map_vn, Nat.reduceAdd, qS] <;> rfl))) ⟨_, rfl, (up_m rfl (u2 rfl hb_6))⟩ rfl ?_
      (refine il_ro (fun _ => (ro_add' (u2 rfl up_h) up_h ?_)) ⟨_, rfl, (u4 rfl hb_6)⟩ rfl ?_; · (unfold In64; omega))
      refine il_ro (fun _ => (ro_lss (u4 rfl up_h) up_h)) ⟨_, rfl, (up_m rfl (u4 rfl hb_6))⟩ rfl ?_
      refine il_ro (fun _ => (ro_pickT (u2 rfl (u4 rfl hb_6)) up_h)) trivial rfl ?_
      refine il_ro (fun _ => (ro_move up_h)) trivial rfl ?_
      refine il_case up_h (fun hb_7 hq_7 => ?_) (fun hb_7 hq_7 => ?_)
      ·replace hq_7 := bt hq_7
       refine il_ro (fun _ => (ro_move (u4 rfl (u8 rfl s0_5)))) ⟨_, rfl, hb_7⟩ rfl ?_
       refine il_ro (fun _ => (ro_move (up_m rfl (u4 rfl (u8 rfl s5_5))))) ⟨_, rfl, (up_m rfl hb_7)⟩ rfl ?_
       refine il_yield2 (up_m rfl up_h) (evL_cons up_h evL_nil) rfl ⟨_, rfl, (u2 rfl hb_7)⟩ rfl (by exact benY_at p1 (by omega) (by omega) (by omega) hix) ?_ ?_
       ·
         refine il_ro (fun _ => (ro_not up_h)) ⟨_, rfl, (up_m rfl (u2 rfl hb_7))⟩ rfl ?_
         refine il_ro (fun _ => (ro_pickT (u4 rfl hb_7) up_h)) trivial rfl ?_
         refine il_end (fun e_8 he_8 => ?_)
         have s0_8 := ef 0 he_8 (up_m rfl (u16 rfl s0_5))
         have s2_8 := ef 2 he_8 (up_m rfl (u16 rfl s2_5))
         have s3_8 := ef 3 he_8 (up_m rfl (u16 rfl s3_5))
         have s10_8 := ef 10 he_8 (up_m rfl (u16 rfl s10_5))
         have s11_8 := ef 11 he_8 (up_m rfl (u16 rfl s11_5))
         have s12_8 := ef 12 he_8 (up_m rfl (u16 rfl s12_5))
         have s33_8 := ef 33 he_8 up_h
         clear he_8 hb_6 hb_7 s0_5 s10_5 s11_5 s12_5 s2_5 s3_5 s5_5 s6_5
         refine theni_n ?_
         refine iw_false s33_8 ?_
         refine iw_skip ?_
         refine blocki_n ?_
         refine theni_n ?_
         refine iw_text ?_
         (refine il_ro (fun _ => (ro_add' s12_8 ev_c ?_)) trivial rfl ?_; · (unfold In64; omega))
         refine il_ro (fun _ => (ro_move up_h)) trivial rfl ?_
         refine il_end (fun e_10 he_10 => ?_)
         have s0_10 := ef 0 he_10 (u2 rfl s0_8)
         have s2_10 := ef 2 he_10 (u2 rfl s2_8)
         have s3_10 := ef 3 he_10 (u2 rfl s3_8)
         have s10_10 := ef 10 he_10 (u2 rfl s10_8)
         have s11_10 := ef 11 he_10 (u2 rfl s11_8)
         have s12_10 := ef 12 he_10 up_h
         clear he_10 s0_8 s10_8 s11_8 s12_8 s2_8 s33_8 s3_8
         refine theni_n ?_
         refine ⟨_, ⟨s12_10, (s0_10.trans s0_1.symm), (s2_10.trans s2_1.symm), (s3_10.trans s3_1.symm), (s10_10.trans s10_1.symm), (s11_10.trans s11_1.symm), rfl, (by first | (rw [hix, benY_yes hinv.1 (by omega) (by omega)]; done) | (rw [hix, benY_no hinv.1 (by omega)]; done)), ?_⟩, ?_⟩
         · (exact ⟨by omega, by omega⟩)
         · ((try dsimp only); omega)
       ·
         refine il_ro (fun _ => (ro_not up_h)) ⟨_, rfl, (up_m rfl (u2 rfl hb_7))⟩ rfl ?_
         refine il_ro (fun _ => (ro_pickT (u4 rfl hb_7) up_h)) trivial rfl ?_
         refine il_end (fun e_11 he_11 => ?_)
         have s0_11 := ef 0 he_11 (up_m rfl (u16 rfl s0_5))
         have s2_11 := ef 2 he_11 (up_m rfl (u16 rfl s2_5))
         have s3_11 := ef 3 he_11 (up_m rfl (u16 rfl s3_5))
         have s10_11 := ef 10 he_11 (up_m rfl (u16 rfl s10_5))
         have s11_11 := ef 11 he_11 (up_m rfl (u16 rfl s11_5))
         have s12_11 := ef 12 he_11 (up_m rfl (u16 rfl s12_5))
         have s33_11 := ef 33 he_11 up_h
         clear he_11 hb_6 hb_7 s0_5 s10_5 s11_5 s12_5 s2_5 s3_5 s5_5 s6_5
         refine theni_n ?_
         refine iw_true s33_11 ?_
         refine iw_ret ?_
         refine blocki_r ?_
         refine theni_r ?_
         refine theni_r ?_
         refine blocki_r ?_
         refine gen_r (fun hb_ => (by cases hb_))
      replace hq_7 := bf hq_7
      refine il_skip ⟨_, rfl, .inl hb_7⟩ rfl ?_
      refine il_skip ⟨_, rfl, .inl (up_m rfl hb_7)⟩ rfl ?_
      refine il_skip ⟨_, rfl, .inl (u2 rfl hb_7)⟩ rfl ?_
      refine il_skip ⟨_, rfl, .inl (up_m rfl (u2 rfl hb_7))⟩ rfl ?_
      refine il_ro (fun _ => (ro_pickF (u4 rfl hb_7) ev_c)) trivial rfl ?_
      refine il_end (fun e_13 he_13 => ?_)
      have s0_13 := ef 0 he_13 (up_m rfl (u16 rfl s0_5))
      have s2_13 := ef 2 he_13 (up_m rfl (u16 rfl s2_5))
      have s3_13 := ef 3 he_13 (up_m rfl (u16 rfl s3_5))
      have s10_13 := ef 10 he_13 (up_m rfl (u16 rfl s10_5))
      have s11_13 := ef 11 he_13 (up_m rfl (u16 rfl s11_5))
      have s12_13 := ef 12 he_13 (up_m rfl (u16 rfl s12_5))
      have s33_13 := ef 33 he_13 up_h
      clear he_13 hb_6 hb_7 s0_5 s10_5 s11_5 s12_5 s2_5 s3_5 s5_5 s6_5
      refine theni_n ?_
      refine iw_false s33_13 ?_
      refine iw_skip ?_
      refine blocki_n ?_
      refine theni_n ?_
      refine iw_text ?_
      (refine il_ro (fun _ => (ro_add' s12_13 ev_c ?_)) trivial rfl ?_; · (unfold In64; omega))
      refine il_ro (fun _ => (ro_move up_h)) trivial rfl ?_
      refine il_end (fun e_15 he_15 => ?_)
      have s0_15 := ef 0 he_15 (u2 rfl s0_13)
      have s2_15 := ef 2 he_15 (u2 rfl s2_13)
      have s3_15 := ef 3 he_15 (u2 rfl s3_13)
      have s10_15 := ef 10 he_15 (u2 rfl s10_13)
      have s11_15 := ef 11 he_15 (u2 rfl s11_13)
      have s12_15 := ef 12 he_15 up_h
      clear he_15 s0_13 s10_13 s11_13 s12_13 s2_13 s33_13 s3_13
      refine theni_n ?_
      refine ⟨_, ⟨s12_15, (s0_15.trans s0_1.symm), (s2_15.trans s2_1.symm), (s3_15.trans s3_1.symm), (s10_15.trans s10_1.symm), (s11_15.trans s11_1.symm), rfl, (by first | (rw [hix, benY_yes hinv.1 (by omega) (by omega)]; done) | (rw [hix, benY_no hinv.1 (by omega)]; done)), ?_⟩, ?_⟩
      · (exact ⟨by omega, by omega⟩)
      · ((try dsimp only); omega)
     replace hq_6 := bf hq_6
     refine il_skip ⟨_, rfl, .inl hb_6⟩ rfl ?_
     refine il_skip ⟨_, rfl, .inl (up_m rfl hb_6)⟩ rfl ?_
     refine il_skip ⟨_, rfl, .inl (u2 rfl hb_6)⟩ rfl ?_
     refine il_skip ⟨_, rfl, .inl (up_m rfl (u2 rfl hb_6))⟩ rfl ?_
     refine il_skip ⟨_, rfl, .inl (u4 rfl hb_6)⟩ rfl ?_
     refine il_skip ⟨_, rfl, .inl (up_m rfl (u4 rfl hb_6))⟩ rfl ?_
     refine il_ro (fun _ => (ro_pickF (u2 rfl (u4 rfl hb_6)) ev_c)) trivial rfl ?_
     refine il_ro (fun _ => (ro_move up_h)) trivial rfl ?_
     refine il_skip ⟨_, rfl, .inl up_h⟩ rfl ?_
     refine il_skip ⟨_, rfl, .inl (up_m rfl up_h)⟩ rfl ?_
     refine il_skip ⟨_, rfl, .inl (u2 rfl up_h)⟩ rfl ?_
     refine il_skip ⟨_, rfl, .inl (up_m rfl (u2 rfl up_h))⟩ rfl ?_
     refine il_ro (fun _ => (ro_pickF (u4 rfl up_h) ev_c)) trivial rfl ?_
     refine il_end (fun e_16 he_16 => ?_)
     have s0_16 := ef 0 he_16 (up_m rfl (u16 rfl s0_5))
     have s2_16 := ef 2 he_16 (up_m rfl (u16 rfl s2_5))
     have s3_16 := ef 3 he_16 (up_m rfl (u16 rfl s3_5))
     have s10_16 := ef 10 he_16 (up_m rfl (u16 rfl s10_5))
     have s11_16 := ef 11 he_16 (up_m rfl (u16 rfl s11_5))
     have s12_16 := ef 12 he_16 (up_m rfl (u16 rfl s12_5))
     have s33_16 := ef 33 he_16 up_h
     clear he_16 hb_6 s0_5 s10_5 s11_5 s12_5 s2_5 s3_5 s5_5 s6_5
     refine theni_n ?_
     refine iw_false s33_16 ?_
     refine iw_skip ?_
     refine blocki_n ?_
     refine theni_n ?_
     refine iw_text ?_
     (refine il_ro (fun _ => (ro_add' s12_16 ev_c ?_)) trivial rfl ?_; · (unfold In64; omega))
     refine il_ro (fun _ => (ro_move up_h)) trivial rfl ?_
     refine il_end (fun e_18 he_18 => ?_)
     have s0_18 := ef 0 he_18 (u2 rfl s0_16)
     have s2_18 := ef 2 he_18 (u2 rfl s2_16)
     have s3_18 := ef 3 he_18 (u2 rfl s3_16)
     have s10_18 := ef 10 he_18 (u2 rfl s10_16)
     have s11_18 := ef 11 he_18 (u2 rfl s11_16)
     have s12_18 := ef 12 he_18 up_h
     clear he_18 s0_16 s10_16 s11_16 s12_16 s2_16 s33_16 s3_16
     refine theni_n ?_
     refine ⟨_, ⟨s12_18, (s0_18.trans s0_1.symm), (s2_18.trans s2_1.symm), (s3_18.trans s3_1.symm), (s10_18.trans s10_1.symm), (s11_18.trans s11_1.symm), rfl, (by first | (rw [hix, benY_yes hinv.1 (by omega) (by omega)]; done) | (rw [hix, benY_no hinv.1 (by omega)]; done)), ?_⟩, ?_⟩
     · (exact ⟨by omega, by omega⟩)
     · ((try dsimp only); omega)
    replace hq_4 := bf hq_4
    refine iw_exit ?_
    refine theni_x ?_
    refine theni_x ?_
    refine blocki_hit ?_
    refine gen_n (fun hb_ => ?_)
    (first | (rw [hix, benY_len]; unfold benL; rw [show j.toNat = l.js.length by omega]; done))
set_option maxRecDepth 100000 in
set_option maxHeartbeats 4000000 in
theorem beneath_ok (l : Lin) (L c s p : Int) : FnOk Try.prog 66 [tkA l, vehA L c s, mA p] (fun q => q = .clo (.func 86) [] [.ref [tkA l], .ref [mA p], .ref [mA L, mA c, mA s]]) := by
  refine fnOk_of (fn := Try.f66) 8 (by kernel_rfl) rfl (by kernel_rfl) (Nat.le_of_ble_eq_true rfl) ?_
  intro e_0 m_0 hA hm_0
  have s0_0 : evA e_0 (.tmp 0) = _ := hA 0 _ rfl
  have s1_0 : evA e_0 (.tmp 1) = _ := hA 1 _ rfl
  have s2_0 : evA e_0 (.tmp 2) = _ := hA 2 _ rfl
  have ml_0 : m_0.length = 0 := by rw [hm_0]; rfl
  clear hA hm_0
  refine aw_seq ?_
  refine aw_text (by kernel_rfl) ?_
  refine al_stm (st_box s0_0 rfl ml_0) trivial rfl (fun m_1 hm_1 => ?_)
  have mo0_1 := m_push hm_1 ml_0
  (first | (simp only [packA_t, packA_f, iE, bE, setAt, cellsA, Value.cells, map_vc, map_vn, Nat.reduceAdd, qS] at mo0_1; trace "W2.N.1.1") | skip)
  have ml_1 := m_push_l hm_1 ml_0
  have ml_1 : _ = 1 := ml_1
  clear hm_1
  refine al_stm (st_box (up_m rfl s1_0) rfl ml_1) trivial rfl (fun m_2 hm_2 => ?_)
  have mo1_2 := m_push hm_2 ml_1
  (first | (simp only [packA_t, packA_f, iE, bE, setAt, cellsA, Value.cells, map_vc, map_vn, Nat.reduceAdd, qS] at mo1_2; trace "W2.N.2.1") | skip)
  have mo0_2 := m_push_o hm_2 mo0_1
  have ml_2 := m_push_l hm_2 ml_1
  have ml_2 : _ = 2 := ml_2
  clear hm_2 mo0_1
  refine al_stm (st_box (u2 rfl s2_0) rfl ml_2) trivial rfl (fun m_3 hm_3 => ?_)
  have mo2_3 := m_push hm_3 ml_2
  (first | (simp only [packA_t, packA_f, iE, bE, setAt, cellsA, Value.cells, map_vc, map_vn, Nat.reduceAdd, qS] at mo2_3; trace "W2.N.3.1") | skip)
  have mo1_3 := m_push_o hm_3 mo1_2
  have mo0_3 := m_push_o hm_3 mo0_2
  have ml_3 := m_push_l hm_3 ml_2
  have ml_3 : _ = 3 := ml_3
  clear hm_3 mo1_2 mo0_2
  refine al_ro' (ro_assign ev_c) trivial rfl ?_
  refine al_end (fun e_4 he_4 => ?_)
  have s3_4 := ef 3 he_4 (up_m rfl (u2 rfl up_h))
  have s4_4 := ef 4 he_4 (u2 rfl up_h)
  have s5_4 := ef 5 he_4 (up_m rfl up_h)
  clear he_4 s0_0 s1_0 s2_0
  refine then_n ?_
  refine aw_seq ?_
  refine aw_text (by kernel_rfl) ?_
  refine al_ro' (ro_makeFunc evL_nil (evL_cons s3_4 (evL_cons s5_4 (evL_cons s4_4 evL_nil)))) trivial rfl ?_
  refine al_ro' (ro_assign up_h) trivial rfl ?_
  refine al_end (fun e_5 he_5 => ?_)
  have s6_5 := ef 6 he_5 up_h
  clear he_5 s3_4 s4_4 s5_4
  refine then_n ?_
  refine aw_ret ?_
  refine ret1 (.inr rfl) (by kernel_rfl) (resV_tmp s6_5) (vw_clo vwl_nil (vwl_cons (vw_ptr mo0_3 (vwl_cons (.ro _ rfl) vwl_nil)) (vwl_cons (vw_ptr mo2_3 (vwl_cons (.ro _ rfl) vwl_nil)) (vwl_cons (vw_ptr mo1_3 (vwl_cons (.ro _ rfl) (vwl_cons (.ro _ rfl) (vwl_cons (.ro _ rfl) vwl_nil)))) vwl_nil)))) ?_
  clear s6_5 mo2_3 mo1_3 mo0_3 ml_3
  rfl
/-- Whether a joint is beneath a pose. -/
def benI (l : Lin) (L p j : Int) : Bool := decide (0 ≤ j) && decide (j < l.js.length) && benB l L p j.toNat
/-- A joint is none of the first ones beneath. -/
def Non (l : Lin) (L p j : Int) (i : Nat) : Prop := ∀ k : Nat, k < i → ∀ n : Nat, (benL l L p)[k]? = some n → (n : Int) ≠ j
theorem Non.step {l : Lin} {L p j : Int} {i n : Nat} (h : Non l L p j i) (hn : (benL l L p)[i]? = some n) (hne : ¬ (n : Int) = j) : Non l L p j (i + 1) := fun k hk m hm => by
  by_cases hki : k = i
  · subst hki; rw [hn] at hm; cases hm; exact hne
  · exact h k (by omega) m hm
theorem benI_yes {l : Lin} {L p j : Int} {n : Nat} (hj : (n : Int) = j) (n1 : n < l.js.length) (n2 : p < plaP l.bs n) (n3 : plaP l.bs n < p + L) : benI l L p j = true := by
  subst hj
  simp [benI, benB, n1, n2, n3]
theorem benI_no {l : Lin} {L p j : Int} (h : Non l L p j (benY l L p).length) : benI l L p j = false := by
  cases hb : benI l L p j with
  | false => rfl
  | true =>
    unfold benI at hb
    simp only [Bool.and_eq_true, decide_eq_true_eq] at hb
    obtain ⟨⟨h0, h1⟩, h2⟩ := hb
    have hm : j.toNat ∈ benL l L p := by
      unfold benL
      rw [List.mem_filter]
      exact ⟨List.mem_range.2 (by omega), h2⟩
    obtain ⟨k, hk⟩ := List.mem_iff_getElem?.1 hm
    have hlt := (List.getElem?_eq_some_iff.1 hk).1
    exact absurd (show ((j.toNat : Nat) : Int) = j by omega) (h k (by rw [benY_len]; exact hlt) _ hk)
set_option maxRecDepth 100000 in
set_option maxHeartbeats 4000000 in
theorem deviationAt_good (l : Lin) (hl : Sho l) (hg : (linM l).2 = 0) (L c s p j : Int) (hv : vehE L c s = 0) (hp : posE l L s p = 0) : FnOk Try.prog 35 [lnA l, vehA L c s, .agg [mA p, mA j]] (fun q => q = if benI l L p j then .tuple [.agg [mA (devLo l L p j.toNat), mA (devHi l L p j.toNat)], mA 0] else .tuple [.agg [mA 0, mA 0], mA 6]) := by
  refine fnOk_of (fn := Try.f35) 40 (by kernel_rfl) rfl (by kernel_rfl) (Nat.le_of_ble_eq_true rfl) ?_
  intro e_0 m_0 hA hm_0
  have s0_0 : evA e_0 (.tmp 0) = _ := hA 0 _ rfl
  have s1_0 : evA e_0 (.tmp 1) = _ := hA 1 _ rfl
  have s2_0 : evA e_0 (.tmp 2) = _ := hA 2 _ rfl
  have ml_0 : m_0.length = 0 := by rw [hm_0]; rfl
  clear hA hm_0
  have h := rgt_of hg; have hv2 := vehE_z.1 hv; have hp2 := posE_z.1 hp; have hpb := h.pla (n := l.bs.length) (Nat.le_refl _)
  refine aw_seq ?_
  refine aw_text (by kernel_rfl) ?_
  refine al_stm (st_box s0_0 rfl ml_0) trivial rfl (fun m_1 hm_1 => ?_)
  have mo0_1 := m_push hm_1 ml_0
  have ml_1 := m_push_l hm_1 ml_0
  have ml_1 : _ = 1 := ml_1
  clear hm_1
  refine al_stm (st_box (up_m rfl s1_0) rfl ml_1) trivial rfl (fun m_2 hm_2 => ?_)
  have mo1_2 := m_push hm_2 ml_1
  have mo0_2 := m_push_o hm_2 mo0_1
  have ml_2 := m_push_l hm_2 ml_1
  have ml_2 : _ = 2 := ml_2
  clear hm_2 mo0_1
  refine al_stm (st_box (u2 rfl s2_0) rfl ml_2) trivial rfl (fun m_3 hm_3 => ?_)
  have mo2_3 := m_push hm_3 ml_2
  have mo1_3 := m_push_o hm_3 mo1_2
  have mo0_3 := m_push_o hm_3 mo0_2
  have ml_3 := m_push_l hm_3 ml_2
  have ml_3 : _ = 3 := ml_3
  clear hm_3 mo1_2 mo0_2
  refine al_stm (st_alloc y26_az60 rfl ml_3) trivial rfl (fun m_4 hm_4 => ?_)
  have mo3_4 := m_push hm_4 ml_3
  simp only [packA_t, packA_f, iE, bE, setAt, cellsA, Value.cells, map_vc, map_vn, Nat.reduceAdd, qS] at mo3_4
  have mo2_4 := m_push_o hm_4 mo2_3
  have mo1_4 := m_push_o hm_4 mo1_3
  have mo0_4 := m_push_o hm_4 mo0_3
  have ml_4 := m_push_l hm_4 ml_3
  have ml_4 : _ = 4 := ml_4
  clear hm_4 mo2_3 mo1_3 mo0_3
  refine al_stm (st_alloc y26_az31 rfl ml_4) trivial rfl (fun m_5 hm_5 => ?_)
  have mo4_5 := m_push hm_5 ml_4
  simp only [packA_t, packA_f, iE, bE, setAt, cellsA, Value.cells, map_vc, map_vn, Nat.reduceAdd, qS] at mo4_5
  have mo3_5 := m_push_o hm_5 mo3_4
  have mo2_5 := m_push_o hm_5 mo2_4
  have mo1_5 := m_push_o hm_5 mo1_4
  have mo0_5 := m_push_o hm_5 mo0_4
  have ml_5 := m_push_l hm_5 ml_4
  have ml_5 : _ = 5 := ml_5
  clear hm_5 mo3_4 mo2_4 mo1_4 mo0_4
  refine al_end (fun e_6 he_6 => ?_)
  have s3_6 := ef 3 he_6 (u4 rfl up_h)
  have s4_6 := ef 4 he_6 (up_m rfl (u2 rfl up_h))
  have s5_6 := ef 5 he_6 (u2 rfl up_h)
  have s6_6 := ef 6 he_6 (up_m rfl up_h)
  have s7_6 := ef 7 he_6 up_h
  clear he_6 s0_0 s1_0 s2_0
  refine then_n ?_
  refine aw_seq ?_
  refine aw_text (by kernel_rfl) ?_
  refine al_ro' (ro_eq (ro_ld_ptr y26_ty26 rfl mo0_5 s3_6 (by exact Nat.le_of_ble_eq_true rfl)) (by simp only [packA_t, packA_f, iE, bE, setAt, cellsA, Value.cells, map_vc, map_vn, Nat.reduceAdd, qS] <;> rfl)) trivial rfl ?_
  refine al_ro' (ro_eq (ro_ld_ptr y26_ty64 rfl mo1_5 (up_m rfl s4_6) (by exact Nat.le_of_ble_eq_true rfl)) (by simp only [packA_t, packA_f, iE, bE, setAt, cellsA, Value.cells, map_vc, map_vn, Nat.reduceAdd, qS] <;> rfl)) trivial rfl ?_
  refine al_ro' (ro_ixa y26_ar65 (u2 rfl s5_6) ev_c rfl) trivial rfl ?_
  refine al_ro' (ro_eq (ro_ld_ptr y26_ty3 rfl mo2_5 up_h (by exact Nat.le_of_ble_eq_true rfl)) (by simp only [packA_t, packA_f, iE, bE, setAt, cellsA, Value.cells, map_vc, map_vn, Nat.reduceAdd, qS] <;> rfl)) trivial rfl ?_
  refine al_ro' (ro_call (evL_cons (up_m rfl (u2 rfl up_h)) (evL_cons (u2 rfl up_h) (evL_cons up_h evL_nil))) rfl (openPose_good l hl hg L c s p hv) y26_hcf65) trivial rfl ?_
  refine al_ro' (ro_move up_h) trivial rfl ?_
  refine al_ro' (ro_extract up_h rfl) trivial rfl ?_
  refine al_ro' (ro_extract (up_m rfl up_h) rfl) trivial rfl ?_
  refine al_stm (st_alloc y26_az76 rfl ml_5) trivial rfl (fun m_7 hm_7 => ?_)
  have mo5_7 := m_push hm_7 ml_5
  simp only [packA_t, packA_f, iE, bE, setAt, cellsA, Value.cells, map_vc, map_vn, Nat.reduceAdd, qS] at mo5_7
  have mo4_7 := m_push_o hm_7 mo4_5
  have mo3_7 := m_push_o hm_7 mo3_5
  have mo2_7 := m_push_o hm_7 mo2_5
  have mo1_7 := m_push_o hm_7 mo1_5
  have mo0_7 := m_push_o hm_7 mo0_5
  have ml_7 := m_push_l hm_7 ml_5
  have ml_7 : _ = 6 := ml_7
  clear hm_7 mo4_5 mo3_5 mo2_5 mo1_5 mo0_5
  refine al_stm (st_store up_h (u2 rfl up_h) rfl rfl mo5_7 y26_sz76 rfl (by exact Nat.le_of_ble_eq_true rfl)) trivial rfl (fun m_8 hm_8 => ?_)
  have mo5_8 := m_set hm_8 mo5_7
  simp only [packA_t, packA_f, iE, bE, setAt, cellsA, Value.cells, map_vc, map_vn, Nat.reduceAdd, qS] at mo5_8
  have mo4_8 := m_set_o hm_8 mo4_7 (by decide)
  have mo3_8 := m_set_o hm_8 mo3_7 (by decide)
  have mo2_8 := m_set_o hm_8 mo2_7 (by decide)
  have mo1_8 := m_set_o hm_8 mo1_7 (by decide)
  have mo0_8 := m_set_o hm_8 mo0_7 (by decide)
  have ml_8 := m_set_l hm_8 ml_7
  clear hm_8 mo5_7 mo4_7 mo3_7 mo2_7 mo1_7 mo0_7
  refine al_ro' (ro_assign (up_n (up_m rfl up_h))) trivial rfl ?_
  refine al_end (fun e_9 he_9 => ?_)
  have s4_9 := ef 4 he_9 (up_m rfl (up_n (up_m rfl (u8 rfl s4_6))))
  have s5_9 := ef 5 he_9 (up_m rfl (up_n (up_m rfl (u8 rfl s5_6))))
  have s6_9 := ef 6 he_9 (up_m rfl (up_n (up_m rfl (u8 rfl s6_6))))
  have s7_9 := ef 7 he_9 (up_m rfl (up_n (up_m rfl (u8 rfl s7_6))))
  have s8_9 := ef 8 he_9 (up_m rfl (up_n up_h))
  have s9_9 := ef 9 he_9 up_h
  clear he_9 s3_6 s4_6 s5_6 s6_6 s7_6
  refine then_n ?_
  refine aw_seq ?_
  refine aw_seq ?_
  refine aw_text (by kernel_rfl) ?_
  refine al_ro' (ro_move s9_9) trivial rfl ?_
  refine al_ro' (ro_neq up_h ev_c) trivial rfl ?_
  refine al_end (fun e_10 he_10 => ?_)
  have s4_10 := ef 4 he_10 (u2 rfl s4_9)
  have s5_10 := ef 5 he_10 (u2 rfl s5_9)
  have s6_10 := ef 6 he_10 (u2 rfl s6_9)
  have s7_10 := ef 7 he_10 (u2 rfl s7_9)
  have s8_10 := ef 8 he_10 (u2 rfl s8_9)
  have s9_10 := ef 9 he_10 (u2 rfl s9_9)
  have s20_10 := ef 20 he_10 up_h
  clear he_10 s4_9 s5_9 s6_9 s7_9 s8_9 s9_9
  refine then_n ?_
  refine aw_case s20_10 (fun hq_11 => ?_) (fun hq_11 => ?_)
  · replace hq_11 := bnt hq_11; exfalso; omega
  replace hq_11 := bnf hq_11
  refine aw_skip ?_
  refine then_n ?_
  refine aw_seq ?_
  refine aw_seq ?_
  refine aw_text (by kernel_rfl) ?_
  refine al_ro' (ro_eq (ro_ld_ptr y26_ty76 rfl mo5_8 s8_10 (by exact Nat.le_of_ble_eq_true rfl)) (by simp only [packA_t, packA_f, iE, bE, setAt, cellsA, Value.cells, map_vc, map_vn, Nat.reduceAdd, qS] <;> rfl)) trivial rfl ?_
  refine al_ro' (ro_eq (ro_ld_ptr y26_ty64 rfl mo1_8 (up_m rfl s4_10) (by exact Nat.le_of_ble_eq_true rfl)) (by simp only [packA_t, packA_f, iE, bE, setAt, cellsA, Value.cells, map_vc, map_vn, Nat.reduceAdd, qS] <;> rfl)) trivial rfl ?_
  refine al_ro' (ro_ixa y26_ar65 (u2 rfl s5_10) ev_c rfl) trivial rfl ?_
  refine al_ro' (ro_eq (ro_ld_ptr y26_ty3 rfl mo2_8 up_h (by exact Nat.le_of_ble_eq_true rfl)) (by simp only [packA_t, packA_f, iE, bE, setAt, cellsA, Value.cells, map_vc, map_vn, Nat.reduceAdd, qS] <;> rfl)) trivial rfl ?_
  refine al_ro' (ro_call (evL_cons (up_m rfl (u2 rfl up_h)) (evL_cons (u2 rfl up_h) (evL_cons up_h evL_nil))) rfl (beneath_ok l L c s p) y26_hcf66) trivial rfl ?_
  refine al_end (fun e_15 he_15 => ?_)
  have s4_15 := ef 4 he_15 (up_m rfl (u4 rfl s4_10))
  have s5_15 := ef 5 he_15 (up_m rfl (u4 rfl s5_10))
  have s6_15 := ef 6 he_15 (up_m rfl (u4 rfl s6_10))
  have s7_15 := ef 7 he_15 (up_m rfl (u4 rfl s7_10))
  have s8_15 := ef 8 he_15 (up_m rfl (u4 rfl s8_10))
  have s27_15 := ef 27 he_15 up_h
  clear he_15 s20_10 s4_10 s5_10 s6_10 s7_10 s8_10 s9_10
  refine then_n ?_
  refine aw_block ?_
  refine aw_range1 s27_15 (beneath1_gen l h L c s p hv2.1 (by omega)) y26_hcf86 (by exact benY_one) (Nat.le_of_ble_eq_true rfl) (fun i mem => (mem[5]? = m_8[5]?) ∧ (mem[4]? = m_8[4]?) ∧ (mem[3]? = m_8[3]?) ∧ (mem[2]? = m_8[2]?) ∧ (mem[1]? = m_8[1]?) ∧ (mem[0]? = m_8[0]?) ∧ (mem.length = 6) ∧ ((Non l L p j i))) ⟨rfl, rfl, rfl, rfl, rfl, rfl, ml_8, ?_⟩ ?_ ?_
  · (intro k hk; omega)
  · rintro i_16 y0_16 m_16 hy_16 ⟨mk5_16, mk4_16, mk3_16, mk2_16, mk1_16, mk0_16, ml_16, hinv⟩
    (obtain ⟨n, hn, rfl, n1, n2, n3⟩ := benY_of hy_16; have hq : Pos l L p n := ⟨by omega, by omega, by omega, by omega, by omega, by omega, n1⟩)
    have mo5_16 := mk5_16.trans mo5_8
    have mo4_16 := mk4_16.trans mo4_8
    have mo3_16 := mk3_16.trans mo3_8
    have mo2_16 := mk2_16.trans mo2_8
    have mo1_16 := mk1_16.trans mo1_8
    have mo0_16 := mk0_16.trans mo0_8
    refine aw_env (fun e_16 he_16 => ?_)
    have s4_16 := ef 4 he_16 (up_m rfl s4_15)
    have s5_16 := ef 5 he_16 (up_m rfl s5_15)
    have s6_16 := ef 6 he_16 (up_m rfl s6_15)
    have s7_16 := ef 7 he_16 (up_m rfl s7_15)
    have s8_16 := ef 8 he_16 (up_m rfl s8_15)
    have s27_16 := ef 27 he_16 (up_m rfl s27_15)
    have s28_16 := ef 28 he_16 up_h
    clear he_16
    refine aw_text (by kernel_rfl) ?_
    refine al_ro' (ro_assign s28_16) trivial rfl ?_
    refine al_end (fun e_17 he_17 => ?_)
    have s4_17 := ef 4 he_17 (up_m rfl s4_16)
    have s5_17 := ef 5 he_17 (up_m rfl s5_16)
    have s6_17 := ef 6 he_17 (up_m rfl s6_16)
    have s7_17 := ef 7 he_17 (up_m rfl s7_16)
    have s8_17 := ef 8 he_17 (up_m rfl s8_16)
    have s10_17 := ef 10 he_17 up_h
    clear he_17 s27_16 s28_16 s4_16 s5_16 s6_16 s7_16 s8_16
    refine fallb_n ?_
    refine aw_block ?_
    refine aw_seq ?_
    refine aw_text (by kernel_rfl) ?_
    refine al_ro' (ro_move s10_17) trivial rfl ?_
    refine al_ro' (ro_ixa y26_ar65 (up_m rfl s5_17) ev_c rfl) trivial rfl ?_
    refine al_ro' (ro_eq (ro_ld_ptr y26_ty3 rfl mo2_16 up_h (by exact Nat.le_of_ble_eq_true rfl)) (by simp only [packA_t, packA_f, iE, bE, setAt, cellsA, Value.cells, map_vc, map_vn, Nat.reduceAdd, qS] <;> rfl)) trivial rfl ?_
    refine al_ro' (ro_eql (u2 rfl up_h) up_h) trivial rfl ?_
    refine al_end (fun e_18 he_18 => ?_)
    have s4_18 := ef 4 he_18 (u4 rfl s4_17)
    have s5_18 := ef 5 he_18 (u4 rfl s5_17)
    have s6_18 := ef 6 he_18 (u4 rfl s6_17)
    have s7_18 := ef 7 he_18 (u4 rfl s7_17)
    have s8_18 := ef 8 he_18 (u4 rfl s8_17)
    have s10_18 := ef 10 he_18 (u4 rfl s10_17)
    have s32_18 := ef 32 he_18 up_h
    clear he_18 s10_17 s4_17 s5_17 s6_17 s7_17 s8_17
    refine then_n ?_
    refine aw_case s32_18 (fun hq_19 => ?_) (fun hq_19 => ?_)
    ·replace hq_19 := bt hq_19
     refine aw_seq ?_
     refine aw_text (by kernel_rfl) ?_
     refine al_ro' (ro_eq (ro_ld_ptr y26_ty76 rfl mo5_16 s8_18 (by exact Nat.le_of_ble_eq_true rfl)) (by simp only [packA_t, packA_f, iE, bE, setAt, cellsA, Value.cells, map_vc, map_vn, Nat.reduceAdd, qS] <;> rfl)) trivial rfl ?_
     refine al_ro' (ro_eq (ro_ld_ptr y26_ty64 rfl mo1_16 (up_m rfl s4_18) (by exact Nat.le_of_ble_eq_true rfl)) (by simp only [packA_t, packA_f, iE, bE, setAt, cellsA, Value.cells, map_vc, map_vn, Nat.reduceAdd, qS] <;> rfl)) trivial rfl ?_
     refine al_ro' (ro_ixa y26_ar65 (u2 rfl s5_18) ev_c rfl) trivial rfl ?_
     refine al_ro' (ro_eq (ro_ld_ptr y26_ty3 rfl mo2_16 up_h (by exact Nat.le_of_ble_eq_true rfl)) (by simp only [packA_t, packA_f, iE, bE, setAt, cellsA, Value.cells, map_vc, map_vn, Nat.reduceAdd, qS] <;> rfl)) trivial rfl ?_
     refine al_ro' (ro_move (u4 rfl s10_18)) trivial rfl ?_
     refine al_ro' (ro_call (evL_cons (u4 rfl up_h) (evL_cons (up_m rfl (u2 rfl up_h)) (evL_cons (up_m rfl up_h) (evL_cons up_h evL_nil)))) rfl (deviation_ok l h L c s p n hq) y26_hcf67) trivial rfl ?_
     refine al_stm (st_store (u2 rfl (u4 rfl s6_18)) up_h rfl rfl mo3_16 y26_sz60 rfl (by exact Nat.le_of_ble_eq_true rfl)) trivial rfl (fun m_20 hm_20 => ?_)
     have mo3_20 := m_set hm_20 mo3_16
     simp only [packA_t, packA_f, iE, bE, setAt, cellsA, Value.cells, map_vc, map_vn, Nat.reduceAdd, qS] at mo3_20
     have mo5_20 := m_set_o hm_20 mo5_16 (by decide)
     have mo4_20 := m_set_o hm_20 mo4_16 (by decide)
     have mo2_20 := m_set_o hm_20 mo2_16 (by decide)
     have mo1_20 := m_set_o hm_20 mo1_16 (by decide)
     have mo0_20 := m_set_o hm_20 mo0_16 (by decide)
     have ml_20 := m_set_l hm_20 ml_16
     clear hm_20 mo5_16 mo4_16 mo3_16 mo2_16 mo1_16 mo0_16
     refine al_stm (st_store (up_n (u2 rfl (u4 rfl s7_18))) ev_c rfl rfl mo4_20 y26_sz31 rfl (by exact Nat.le_of_ble_eq_true rfl)) trivial rfl (fun m_21 hm_21 => ?_)
     have mo4_21 := m_set hm_21 mo4_20
     simp only [packA_t, packA_f, iE, bE, setAt, cellsA, Value.cells, map_vc, map_vn, Nat.reduceAdd, qS] at mo4_21
     have mo3_21 := m_set_o hm_21 mo3_20 (by decide)
     have mo5_21 := m_set_o hm_21 mo5_20 (by decide)
     have mo2_21 := m_set_o hm_21 mo2_20 (by decide)
     have mo1_21 := m_set_o hm_21 mo1_20 (by decide)
     have mo0_21 := m_set_o hm_21 mo0_20 (by decide)
     have ml_21 := m_set_l hm_21 ml_20
     clear hm_21 mo3_20 mo5_20 mo4_20 mo2_20 mo1_20 mo0_20
     refine al_end (fun e_22 he_22 => ?_)
     have s6_22 := ef 6 he_22 (up_n (up_n (u2 rfl (u4 rfl s6_18))))
     have s7_22 := ef 7 he_22 (up_n (up_n (u2 rfl (u4 rfl s7_18))))
     clear he_22 s10_18 s32_18 s4_18 s5_18 s6_18 s7_18 s8_18
     refine then_n ?_
     refine aw_ret ?_
     refine block_r ?_
     refine rnd_r ?_
     refine block_r ?_
     refine then_r ?_
     refine ret2 (.inr rfl) (by kernel_rfl) (resV_cell s6_15 mo3_21 y26_ty60 (by exact Nat.le_of_ble_eq_true rfl) (by simp)) (resV_cell s7_15 mo4_21 y26_ty31 (by exact Nat.le_of_ble_eq_true rfl) (by simp)) (vw_r (.ro _ rfl)) (vw_c (.ro _ rfl)) ?_
     clear s27_15 s4_15 s5_15 s6_15 s7_15 s8_15 mo4_21 mo3_21 mo5_21 mo2_21 mo1_21 mo0_21 ml_21
     (have hj : (n : Int) = j := (by assumption); rw [if_pos (benI_yes hj n1 n2 n3), ← hj]; rfl)
    replace hq_19 := bf hq_19
    refine aw_skip ?_
    refine block_n ?_
    refine rnd_n ⟨(mo5_16.trans mo5_8.symm), (mo4_16.trans mo4_8.symm), (mo3_16.trans mo3_8.symm), (mo2_16.trans mo2_8.symm), (mo1_16.trans mo1_8.symm), (mo0_16.trans mo0_8.symm), ml_16, ?_⟩
    (exact hinv.step hn (by assumption))
  · rintro m_16 ⟨mk5_16, mk4_16, mk3_16, mk2_16, mk1_16, mk0_16, ml_16, hinv⟩
    have mo5_16 := mk5_16.trans mo5_8
    have mo4_16 := mk4_16.trans mo4_8
    have mo3_16 := mk3_16.trans mo3_8
    have mo2_16 := mk2_16.trans mo2_8
    have mo1_16 := mk1_16.trans mo1_8
    have mo0_16 := mk0_16.trans mo0_8
    refine block_n ?_
    refine then_n ?_
    refine aw_seq ?_
    refine aw_text (by kernel_rfl) ?_
    refine al_ro' (ro_build evP_nil y26_bz60 y26_bu60 y26_bp60 rfl) trivial rfl ?_
    refine al_stm (st_store (up_m rfl s6_15) up_h rfl rfl mo3_16 y26_sz60 rfl (by exact Nat.le_of_ble_eq_true rfl)) trivial rfl (fun m_23 hm_23 => ?_)
    have mo3_23 := m_set hm_23 mo3_16
    simp only [packA_t, packA_f, iE, bE, setAt, cellsA, Value.cells, map_vc, map_vn, Nat.reduceAdd, qS] at mo3_23
    have mo5_23 := m_set_o hm_23 mo5_16 (by decide)
    have mo4_23 := m_set_o hm_23 mo4_16 (by decide)
    have mo2_23 := m_set_o hm_23 mo2_16 (by decide)
    have mo1_23 := m_set_o hm_23 mo1_16 (by decide)
    have mo0_23 := m_set_o hm_23 mo0_16 (by decide)
    have ml_23 := m_set_l hm_23 ml_16
    clear hm_23 mo5_16 mo4_16 mo3_16 mo2_16 mo1_16 mo0_16
    refine al_stm (st_store (up_n (up_m rfl s7_15)) ev_c rfl rfl mo4_23 y26_sz31 rfl (by exact Nat.le_of_ble_eq_true rfl)) trivial rfl (fun m_24 hm_24 => ?_)
    have mo4_24 := m_set hm_24 mo4_23
    simp only [packA_t, packA_f, iE, bE, setAt, cellsA, Value.cells, map_vc, map_vn, Nat.reduceAdd, qS] at mo4_24
    have mo3_24 := m_set_o hm_24 mo3_23 (by decide)
    have mo5_24 := m_set_o hm_24 mo5_23 (by decide)
    have mo2_24 := m_set_o hm_24 mo2_23 (by decide)
    have mo1_24 := m_set_o hm_24 mo1_23 (by decide)
    have mo0_24 := m_set_o hm_24 mo0_23 (by decide)
    have ml_24 := m_set_l hm_24 ml_23
    clear hm_24 mo3_23 mo5_23 mo4_23 mo2_23 mo1_23 mo0_23
    refine al_end (fun e_25 he_25 => ?_)
    have s6_25 := ef 6 he_25 (up_n (up_n (up_m rfl s6_15)))
    have s7_25 := ef 7 he_25 (up_n (up_n (up_m rfl s7_15)))
    clear he_25 s27_15 s4_15 s5_15 s6_15 s7_15 s8_15
    refine then_n ?_
    refine aw_ret ?_
    refine ret2 (.inr rfl) (by kernel_rfl) (resV_cell s6_25 mo3_24 y26_ty60 (by exact Nat.le_of_ble_eq_true rfl) (by simp)) (resV_cell s7_25 mo4_24 y26_ty31 (by exact Nat.le_of_ble_eq_true rfl) (by simp)) (vw_r (.ro _ rfl)) (vw_c (.ro _ rfl)) ?_
    clear s6_25 s7_25 mo4_24 mo3_24 mo5_24 mo2_24 mo1_24 mo0_24 ml_24
    (rw [if_neg (by rw [benI_no hinv]; decide)]; rfl)
end Go.Proofs.Ytlebjleebclmgaa

/- Contracts of chapter 1: whether the program is awake. No conditions on a program. -/
namespace Go.Proofs.Ytlebjleebclmgaa
open Go Go.RowKit Go.Proofs
set_option linter.unusedSimpArgs false
set_option linter.unusedVariables false
theorem y27_az26 : (Try.prog.info? 26).bind (·.zero) = some (.agg #[.string ByteArray.empty, .slice none 0 0, .slice none 0 0, .slice none 0 0]) := by kernel_rfl
theorem y27_az60 : (Try.prog.info? 60).bind (·.zero) = some (.agg #[.int .i64 0, .int .i64 0]) := by kernel_rfl
theorem y27_bz65 : (Try.prog.info? 65).bind (·.zero) = some (.agg #[.int .i64 0, .int .i64 0]) := by kernel_rfl
theorem y27_bu65 : Try.prog.underlying 65 = some (.array 2 3) := by kernel_rfl
theorem y27_bp65 : (Try.prog.info? 3).map (·.size) = some 1 := by kernel_rfl
theorem y27_bz26 : (Try.prog.info? 26).bind (·.zero) = some (.agg #[.string ByteArray.empty, .slice none 0 0, .slice none 0 0, .slice none 0 0]) := by kernel_rfl
theorem y27_bu26 : Try.prog.underlying 26 = some (.struct (fsOf Try.prog 26)) := by kernel_rfl
theorem y27_bp26 : ∀ w, ((fsOf Try.prog 26).mapM fun f => Prod.mk f.offset <$> sizeOf f.type : Sem (Array (Nat × Nat))).run Try.prog w = .ok (#[(0, 1), (1, 1), (2, 1), (3, 1)]) w := fun _ => by kernel_rfl
theorem y27_bz60 : (Try.prog.info? 60).bind (·.zero) = some (.agg #[.int .i64 0, .int .i64 0]) := by kernel_rfl
theorem y27_bu60 : Try.prog.underlying 60 = some (.struct (fsOf Try.prog 60)) := by kernel_rfl
theorem y27_bp60 : ∀ w, ((fsOf Try.prog 60).mapM fun f => Prod.mk f.offset <$> sizeOf f.type : Sem (Array (Nat × Nat))).run Try.prog w = .ok (#[(0, 1), (1, 1)]) w := fun _ => by kernel_rfl
theorem y27_bz64 : (Try.prog.info? 64).bind (·.zero) = some (.agg #[.int .i64 0, .int .i64 0, .int .i64 0]) := by kernel_rfl
theorem y27_bu64 : Try.prog.underlying 64 = some (.struct (fsOf Try.prog 64)) := by kernel_rfl
theorem y27_bp64 : ∀ w, ((fsOf Try.prog 64).mapM fun f => Prod.mk f.offset <$> sizeOf f.type : Sem (Array (Nat × Nat))).run Try.prog w = .ok (#[(0, 1), (1, 1), (2, 1)]) w := fun _ => by kernel_rfl
theorem y27_bz85 : (Try.prog.info? 85).bind (·.zero) = some (.agg #[.int .i64 0, .int .i64 0, .int .i64 0, .int .i64 0]) := by kernel_rfl
theorem y27_bu85 : Try.prog.underlying 85 = some (.struct (fsOf Try.prog 85)) := by kernel_rfl
theorem y27_bp85 : ∀ w, ((fsOf Try.prog 85).mapM fun f => Prod.mk f.offset <$> sizeOf f.type : Sem (Array (Nat × Nat))).run Try.prog w = .ok (#[(0, 1), (1, 1), (2, 2)]) w := fun _ => by kernel_rfl
theorem y27_bz88 : (Try.prog.info? 88).bind (·.zero) = some (.agg #[.int .i64 0, .int .i64 0]) := by kernel_rfl
theorem y27_bu88 : Try.prog.underlying 88 = some (.struct (fsOf Try.prog 88)) := by kernel_rfl
theorem y27_bp88 : ∀ w, ((fsOf Try.prog 88).mapM fun f => Prod.mk f.offset <$> sizeOf f.type : Sem (Array (Nat × Nat))).run Try.prog w = .ok (#[(0, 1), (1, 1)]) w := fun _ => by kernel_rfl
theorem y27_hcf10 : ∀ args w, (callFunc 10 args).run Try.prog w = .ok (.enter 10 args) w := fun _ _ => by kernel_rfl
theorem y27_hcf33 : ∀ args w, (callFunc 33 args).run Try.prog w = .ok (.enter 33 args) w := fun _ _ => by kernel_rfl
theorem y27_hcf34 : ∀ args w, (callFunc 34 args).run Try.prog w = .ok (.enter 34 args) w := fun _ _ => by kernel_rfl
theorem y27_hcf35 : ∀ args w, (callFunc 35 args).run Try.prog w = .ok (.enter 35 args) w := fun _ _ => by kernel_rfl
theorem y27_sl22 : SlIs Try.prog 22 85 4 32 (.agg #[.int .i64 0, .int .i64 0, .int .i64 0, .int .i64 0]) := ⟨by kernel_rfl, by kernel_rfl, by kernel_rfl⟩
theorem y27_sl23 : SlIs Try.prog 23 88 2 16 (.agg #[.int .i64 0, .int .i64 0]) := ⟨by kernel_rfl, by kernel_rfl, by kernel_rfl⟩
theorem y27_sz26 : (Try.prog.info? 26).map (·.size) = some 4 := by kernel_rfl
theorem y27_sz60 : (Try.prog.info? 60).map (·.size) = some 2 := by kernel_rfl
theorem y27_ty26 : TyIs Try.prog 26 true 4 := ⟨by kernel_rfl, by kernel_rfl⟩
theorem y27_ty60 : TyIs Try.prog 60 true 2 := ⟨by kernel_rfl, by kernel_rfl⟩

def lin0 : Lin := ⟨⟨#[115, 104, 111, 114, 116]⟩, [⟨0, 0, 0, 0⟩, ⟨0, 100, 0, 0⟩, ⟨200, 100, 0, 0⟩], [⟨10000, 0⟩, ⟨10000, 100⟩], []⟩
set_option maxRecDepth 100000 in
set_option maxHeartbeats 1000000 in
theorem lin0_ok : FnOk Try.prog 33 [] (fun q => q = lnA lin0) := by
  refine fnOk_of (fn := Try.f33) 9 (by kernel_rfl) rfl (by kernel_rfl) (Nat.le_of_ble_eq_true rfl) ?_
  intro e_0 m_0 hA hm_0
  have ml_0 : m_0.length = 0 := by rw [hm_0]; rfl
  clear hA hm_0
  refine aw_seq ?_
  refine aw_text (by kernel_rfl) ?_
  refine al_stm (st_alloc y27_az26 rfl ml_0) trivial rfl (fun m_1 hm_1 => ?_)
  have mo0_1 := m_push hm_1 ml_0
  simp only [packA_t, packA_f, iE, bE, setAt, cellsA, Value.cells, map_vc, map_vn, Nat.reduceAdd, qS] at mo0_1
  have ml_1 := m_push_l hm_1 ml_0
  have ml_1 : _ = 1 := ml_1
  clear hm_1
  refine al_end (fun e_2 he_2 => ?_)
  have s0_2 := ef 0 he_2 up_h
  clear he_2
  refine then_n ?_
  refine aw_seq ?_
  refine aw_text (by kernel_rfl) ?_
  refine al_ro' (ro_build evP_nil y27_bz85 y27_bu85 y27_bp85 rfl) trivial rfl ?_
  refine al_ro' (ro_build (evP_cons ev_c evP_nil) y27_bz85 y27_bu85 y27_bp85 rfl) trivial rfl ?_
  refine al_ro' (ro_build (evP_cons ev_c (evP_cons ev_c evP_nil)) y27_bz85 y27_bu85 y27_bp85 rfl) trivial rfl ?_
  refine al_ro' (ro_lit y27_sl22 (evP_cons (u2 rfl up_h) (evP_cons (up_m rfl up_h) (evP_cons up_h evP_nil))) rfl rfl rfl rfl) trivial rfl ?_
  refine al_ro' (ro_build (evP_cons ev_c evP_nil) y27_bz88 y27_bu88 y27_bp88 rfl) trivial rfl ?_
  refine al_ro' (ro_build (evP_cons ev_c (evP_cons ev_c evP_nil)) y27_bz88 y27_bu88 y27_bp88 rfl) trivial rfl ?_
  refine al_ro' (ro_lit y27_sl23 (evP_cons (up_m rfl up_h) (evP_cons up_h evP_nil)) rfl rfl rfl rfl) trivial rfl ?_
  refine al_ro' (ro_build (evP_cons ev_c (evP_cons (up_m rfl (u2 rfl up_h)) (evP_cons up_h evP_nil))) y27_bz26 y27_bu26 y27_bp26 rfl) trivial rfl ?_
  refine al_stm (st_store (u8 rfl s0_2) up_h rfl rfl mo0_1 y27_sz26 rfl (by exact Nat.le_of_ble_eq_true rfl)) trivial rfl (fun m_3 hm_3 => ?_)
  have mo0_3 := m_set hm_3 mo0_1
  simp only [packA_t, packA_f, iE, bE, setAt, cellsA, Value.cells, map_vc, map_vn, Nat.reduceAdd, qS] at mo0_3
  have ml_3 := m_set_l hm_3 ml_1
  clear hm_3 mo0_1
  refine al_end (fun e_4 he_4 => ?_)
  have s0_4 := ef 0 he_4 (up_n (u8 rfl s0_2))
  clear he_4 s0_2
  refine then_n ?_
  refine aw_ret ?_
  refine ret1 (.inr rfl) (by kernel_rfl) (resV_cell s0_4 mo0_3 y27_ty26 (by exact Nat.le_of_ble_eq_true rfl) (by simp)) (vw_r (vw_agg (vwl_cons (.ro _ rfl) (vwl_cons (.ro _ rfl) (vwl_cons (.ro _ rfl) (vwl_cons (.nil 3) vwl_nil)))))) ?_
  clear s0_4 mo0_3 ml_3
  rfl
theorem lin0_sho : Sho lin0 := ⟨by decide, by decide, by decide, by decide, by intro s hs; cases hs⟩
theorem lin0_good : (linM lin0).2 = 0 := by kernel_rfl
theorem len0_ok : FnOk Try.prog 10 [lnA lin0] (fun q => q = .tuple [mA 20000, mA 0]) :=
  (lengthOf_good lin0 lin0_sho lin0_good).mono fun q h => h.trans (by kernel_rfl)
theorem lim0_ok : FnOk Try.prog 34 [lnA lin0, mA 1000, mA 1] (fun q => q = .tuple [mA 745250000, mA 0]) :=
  (limitAt_good lin0 lin0_sho lin0_good 1000 1 (fun hs n hn => by
    obtain rfl : n = 1 := by have : lin0.js.length = 3 := rfl
                             omega
    exact limit_low lin0 (rgt_of lin0_good) 1000 (by decide) 1 (by decide) (by decide))).mono fun q h => h.trans (by kernel_rfl)
theorem dev0_ok : FnOk Try.prog 35 [lnA lin0, vehA 10000 60 2500, .agg [mA 2500, mA 1]] (fun q => q = .tuple [.agg [mA (-38), mA (-37)], mA 0]) :=
  (deviationAt_good lin0 lin0_sho lin0_good 10000 60 2500 2500 1 (by decide) (by decide)).mono fun q h => h.trans (by kernel_rfl)
set_option maxRecDepth 100000 in
set_option maxHeartbeats 4000000 in
theorem awake_ok : FnOk Try.prog 6 [] (fun q => q = tbA true) := by
  refine fnOk_of (fn := Try.f6) 47 (by kernel_rfl) rfl (by kernel_rfl) (Nat.le_of_ble_eq_true rfl) ?_
  intro e_0 m_0 hA hm_0
  have ml_0 : m_0.length = 0 := by rw [hm_0]; rfl
  clear hA hm_0
  refine aw_seq ?_
  refine aw_text (by kernel_rfl) ?_
  refine al_ro' (ro_assign ev_c) trivial rfl ?_
  refine al_end (fun e_1 he_1 => ?_)
  clear he_1
  refine then_n ?_
  refine aw_seq ?_
  refine aw_text (by kernel_rfl) ?_
  refine al_ro' (ro_call evL_nil rfl (lin0_ok) y27_hcf33) trivial rfl ?_
  refine al_ro' (ro_call (evL_cons up_h evL_nil) rfl (len0_ok) y27_hcf10) trivial rfl ?_
  refine al_ro' (ro_move up_h) trivial rfl ?_
  refine al_ro' (ro_extract up_h rfl) trivial rfl ?_
  refine al_ro' (ro_extract (up_m rfl up_h) rfl) trivial rfl ?_
  refine al_ro' (ro_assign (up_m rfl up_h)) trivial rfl ?_
  refine al_ro' (ro_assign (up_m rfl up_h)) trivial rfl ?_
  refine al_end (fun e_2 he_2 => ?_)
  have s1_2 := ef 1 he_2 (up_m rfl up_h)
  have s2_2 := ef 2 he_2 up_h
  clear he_2
  refine then_n ?_
  refine aw_seq ?_
  refine aw_text (by kernel_rfl) ?_
  refine al_ro' (ro_call evL_nil rfl (lin0_ok) y27_hcf33) trivial rfl ?_
  refine al_ro' (ro_call (evL_cons up_h (evL_cons ev_c (evL_cons ev_c evL_nil))) rfl (lim0_ok) y27_hcf34) trivial rfl ?_
  refine al_ro' (ro_move up_h) trivial rfl ?_
  refine al_ro' (ro_extract up_h rfl) trivial rfl ?_
  refine al_ro' (ro_extract (up_m rfl up_h) rfl) trivial rfl ?_
  refine al_ro' (ro_assign (up_m rfl up_h)) trivial rfl ?_
  refine al_ro' (ro_assign (up_m rfl up_h)) trivial rfl ?_
  refine al_end (fun e_3 he_3 => ?_)
  have s1_3 := ef 1 he_3 (up_m rfl (u2 rfl (u4 rfl s1_2)))
  have s2_3 := ef 2 he_3 (up_m rfl (u2 rfl (u4 rfl s2_2)))
  have s3_3 := ef 3 he_3 (up_m rfl up_h)
  have s4_3 := ef 4 he_3 up_h
  clear he_3 s1_2 s2_2
  refine then_n ?_
  refine aw_seq ?_
  refine aw_text (by kernel_rfl) ?_
  refine al_ro' (ro_call evL_nil rfl (lin0_ok) y27_hcf33) trivial rfl ?_
  refine al_ro' (ro_build (evP_cons ev_c (evP_cons ev_c (evP_cons ev_c evP_nil))) y27_bz64 y27_bu64 y27_bp64 rfl) trivial rfl ?_
  refine al_ro' (ro_buildA (evP_cons ev_c (evP_cons ev_c evP_nil)) y27_bz65 y27_bu65 y27_bp65 rfl) trivial rfl ?_
  refine al_ro' (ro_call (evL_cons (u2 rfl up_h) (evL_cons (up_m rfl up_h) (evL_cons up_h evL_nil))) rfl (dev0_ok) y27_hcf35) trivial rfl ?_
  refine al_ro' (ro_move up_h) trivial rfl ?_
  refine al_ro' (ro_extract up_h rfl) trivial rfl ?_
  refine al_ro' (ro_extract (up_m rfl up_h) rfl) trivial rfl ?_
  refine al_stm (st_alloc y27_az60 rfl ml_0) trivial rfl (fun m_4 hm_4 => ?_)
  have mo0_4 := m_push hm_4 ml_0
  simp only [packA_t, packA_f, iE, bE, setAt, cellsA, Value.cells, map_vc, map_vn, Nat.reduceAdd, qS] at mo0_4
  have ml_4 := m_push_l hm_4 ml_0
  have ml_4 : _ = 1 := ml_4
  clear hm_4
  refine al_stm (st_store up_h (u2 rfl up_h) rfl rfl mo0_4 y27_sz60 rfl (by exact Nat.le_of_ble_eq_true rfl)) trivial rfl (fun m_5 hm_5 => ?_)
  have mo0_5 := m_set hm_5 mo0_4
  simp only [packA_t, packA_f, iE, bE, setAt, cellsA, Value.cells, map_vc, map_vn, Nat.reduceAdd, qS] at mo0_5
  have ml_5 := m_set_l hm_5 ml_4
  clear hm_5 mo0_4
  refine al_ro' (ro_assign (up_n (up_m rfl up_h))) trivial rfl ?_
  refine al_end (fun e_6 he_6 => ?_)
  have s1_6 := ef 1 he_6 (up_m rfl (up_n (u8 rfl s1_3)))
  have s2_6 := ef 2 he_6 (up_m rfl (up_n (u8 rfl s2_3)))
  have s3_6 := ef 3 he_6 (up_m rfl (up_n (u8 rfl s3_3)))
  have s4_6 := ef 4 he_6 (up_m rfl (up_n (u8 rfl s4_3)))
  have s5_6 := ef 5 he_6 (up_m rfl (up_n up_h))
  have s6_6 := ef 6 he_6 up_h
  clear he_6 s1_3 s2_3 s3_3 s4_3
  refine then_n ?_
  refine aw_seq ?_
  refine aw_text (by kernel_rfl) ?_
  refine al_ro' (ro_move s2_6) trivial rfl ?_
  refine al_ro' (ro_eql up_h ev_c) trivial rfl ?_
  refine al_ro' (ro_move up_h) trivial rfl ?_
  refine al_case up_h (fun hb_7 hq_7 => ?_) (fun hb_7 hq_7 => ?_)
  ·replace hq_7 := bt hq_7
   refine al_ro' (ro_move (up_m rfl (u2 rfl s1_6))) ⟨_, rfl, hb_7⟩ rfl ?_
   refine al_ro' (ro_eql up_h ev_c) ⟨_, rfl, (up_m rfl hb_7)⟩ rfl ?_
   refine al_ro' (ro_pickT (u2 rfl hb_7) up_h) trivial rfl ?_
   refine al_ro' (ro_move up_h) trivial rfl ?_
   refine al_case up_h (fun hb_8 hq_8 => ?_) (fun hb_8 hq_8 => ?_)
   ·replace hq_8 := bt hq_8
    refine al_ro' (ro_move (up_m rfl (u2 rfl (u4 rfl s4_6)))) ⟨_, rfl, hb_8⟩ rfl ?_
    refine al_ro' (ro_eql up_h ev_c) ⟨_, rfl, (up_m rfl hb_8)⟩ rfl ?_
    refine al_ro' (ro_pickT (u2 rfl hb_8) up_h) trivial rfl ?_
    refine al_ro' (ro_move up_h) trivial rfl ?_
    refine al_case up_h (fun hb_9 hq_9 => ?_) (fun hb_9 hq_9 => ?_)
    ·replace hq_9 := bt hq_9
     refine al_ro' (ro_move (up_m rfl (u2 rfl (u8 rfl s3_6)))) ⟨_, rfl, hb_9⟩ rfl ?_
     refine al_ro' (ro_eql up_h ev_c) ⟨_, rfl, (up_m rfl hb_9)⟩ rfl ?_
     refine al_ro' (ro_pickT (u2 rfl hb_9) up_h) trivial rfl ?_
     refine al_ro' (ro_move up_h) trivial rfl ?_
     refine al_case up_h (fun hb_10 hq_10 => ?_) (fun hb_10 hq_10 => ?_)
     ·replace hq_10 := bt hq_10
      refine al_ro' (ro_move (up_m rfl (u2 rfl (u4 rfl (u8 rfl s6_6))))) ⟨_, rfl, hb_10⟩ rfl ?_
      refine al_ro' (ro_eql up_h ev_c) ⟨_, rfl, (up_m rfl hb_10)⟩ rfl ?_
      refine al_ro' (ro_pickT (u2 rfl hb_10) up_h) trivial rfl ?_
      refine al_ro' (ro_move up_h) trivial rfl ?_
      refine al_case up_h (fun hb_11 hq_11 => ?_) (fun hb_11 hq_11 => ?_)
      ·replace hq_11 := bt hq_11
       refine al_ro' (ro_eq (ro_ld_ptr y27_ty60 rfl mo0_5 (up_m rfl (u2 rfl (u16 rfl s5_6))) (by exact Nat.le_of_ble_eq_true rfl)) (by simp only [packA_t, packA_f, iE, bE, setAt, cellsA, Value.cells, map_vc, map_vn, Nat.reduceAdd, qS] <;> rfl)) ⟨_, rfl, hb_11⟩ rfl ?_
       refine al_ro' (ro_build (evP_cons ev_c (evP_cons ev_c evP_nil)) y27_bz60 y27_bu60 y27_bp60 rfl) ⟨_, rfl, (up_m rfl hb_11)⟩ rfl ?_
       refine al_ro' (ro_aeql (up_m rfl up_h) up_h (xs := [.int .i64 (-38), .int .i64 (-37)]) (ys := [.int .i64 (-38), .int .i64 (-37)]) (b := true) ⟨rfl, by kernel_rfl, fun _ => by kernel_rfl⟩) ⟨_, rfl, (u2 rfl hb_11)⟩ rfl ?_
       refine al_ro' (ro_pickT (up_m rfl (u2 rfl hb_11)) up_h) trivial rfl ?_
       refine al_ro' (ro_assign up_h) trivial rfl ?_
       refine al_end (fun e_12 he_12 => ?_)
       have s0_12 := ef 0 he_12 up_h
       clear he_12 hb_10 hb_11 hb_7 hb_8 hb_9 s1_6 s2_6 s3_6 s4_6 s5_6 s6_6
       refine then_n ?_
       refine aw_ret ?_
       refine ret1 (.inr rfl) (by kernel_rfl) (resV_tmp s0_12) (.ro _ rfl) ?_
       clear s0_12 mo0_5 ml_5
       rfl
      · replace hq_11 := bf hq_11; exfalso; omega
     · replace hq_10 := bf hq_10; exfalso; omega
    · replace hq_9 := bf hq_9; exfalso; omega
   · replace hq_8 := bf hq_8; exfalso; omega
  · replace hq_7 := bf hq_7; exfalso; omega
end Go.Proofs.Ytlebjleebclmgaa

/- The law of chapter 1 on places. No conditions on a program. -/
namespace Go.Proofs.Ytlebjleebclmgaa
open Go Go.RowKit Go.Proofs
set_option linter.unusedSimpArgs false
set_option linter.unusedVariables false
theorem y29_az46 : (Try.prog.info? 46).bind (·.zero) = some (.agg #[.int .i64 0, .int .i64 0]) := by kernel_rfl
theorem y29_bz46 : (Try.prog.info? 46).bind (·.zero) = some (.agg #[.int .i64 0, .int .i64 0]) := by kernel_rfl
theorem y29_bu46 : Try.prog.underlying 46 = some (.struct (fsOf Try.prog 46)) := by kernel_rfl
theorem y29_bp46 : ∀ w, ((fsOf Try.prog 46).mapM fun f => Prod.mk f.offset <$> sizeOf f.type : Sem (Array (Nat × Nat))).run Try.prog w = .ok (#[(0, 1), (1, 1)]) w := fun _ => by kernel_rfl
theorem y29_hcf16 : ∀ args w, (callFunc 16 args).run Try.prog w = .ok (.enter 16 args) w := fun _ _ => by kernel_rfl
theorem y29_hcf17 : ∀ args w, (callFunc 17 args).run Try.prog w = .ok (.enter 17 args) w := fun _ _ => by kernel_rfl
theorem y29_hcf18 : ∀ args w, (callFunc 18 args).run Try.prog w = .ok (.enter 18 args) w := fun _ _ => by kernel_rfl
theorem y29_hcf19 : ∀ args w, (callFunc 19 args).run Try.prog w = .ok (.enter 19 args) w := fun _ _ => by kernel_rfl
theorem y29_hcf20 : ∀ args w, (callFunc 20 args).run Try.prog w = .ok (.enter 20 args) w := fun _ _ => by kernel_rfl
theorem y29_hcf21 : ∀ args w, (callFunc 21 args).run Try.prog w = .ok (.enter 21 args) w := fun _ _ => by kernel_rfl
theorem y29_hcf22 : ∀ args w, (callFunc 22 args).run Try.prog w = .ok (.enter 22 args) w := fun _ _ => by kernel_rfl
theorem y29_hcf23 : ∀ args w, (callFunc 23 args).run Try.prog w = .ok (.enter 23 args) w := fun _ _ => by kernel_rfl
theorem y29_hcf6 : ∀ args w, (callFunc 6 args).run Try.prog w = .ok (.enter 6 args) w := fun _ _ => by kernel_rfl
theorem y29_hcf7 : ∀ args w, (callFunc 7 args).run Try.prog w = .ok (.enter 7 args) w := fun _ _ => by kernel_rfl
theorem y29_hcf9 : ∀ args w, (callFunc 9 args).run Try.prog w = .ok (.enter 9 args) w := fun _ _ => by kernel_rfl
theorem y29_gq46 : Try.prog.eqGuardType Try.prog.depth 46 = false := by kernel_rfl
theorem y29_sq46 {a0 b0 : Int} {a1 b1 : Int} : EqV Try.prog 2 46 (.agg #[.int .i64 a0, .int .i64 a1]) (.agg #[.int .i64 b0, .int .i64 b1]) (decide (a0 = b0) && (decide (a1 = b1) && true)) := (eqs_struct [(3, 0), (3, 1)] (by kernel_rfl) (by kernel_rfl) (by kernel_rfl) (by kernel_rfl) (.cons (fun _ => by kernel_rfl) (fun _ => by kernel_rfl) (eqv_int (k := .i64) (k' := .i64) (by kernel_rfl) a0 b0) (.cons (fun _ => by kernel_rfl) (fun _ => by kernel_rfl) (eqv_int (k := .i64) (k' := .i64) (by kernel_rfl) a1 b1) .nil)))
theorem y29_sz46 : (Try.prog.info? 46).map (·.size) = some 2 := by kernel_rfl
theorem y29_ty26 : TyIs Try.prog 26 true 4 := ⟨by kernel_rfl, by kernel_rfl⟩
theorem y29_ty46 : TyIs Try.prog 46 true 2 := ⟨by kernel_rfl, by kernel_rfl⟩

theorem beamAt_out (l : Lin) (hl : Sho l) (hg : (linM l).2 = 0) (p : Int) (hm : plaE l p ≠ 0) : FnOk Try.prog 16 [lnA l, mA p] (fun q => q = .tuple [mA 0, mA 0, mA (plaE l p)]) := (beamAt_good l hl hg p).mono fun q h => by rw [if_neg hm] at h; exact h
theorem beamAt_in (l : Lin) (hl : Sho l) (hg : (linM l).2 = 0) (p : Int) (hm : plaE l p = 0) : FnOk Try.prog 16 [lnA l, mA p] (fun q => q = .tuple [mA (atI l p), mA (atD l p), mA 0]) := (beamAt_good l hl hg p).mono fun q h => by rw [if_pos hm] at h; exact h
set_option maxRecDepth 100000 in
set_option maxHeartbeats 4000000 in
theorem linePlaces_many (l : Lin) (hf : fewL l = false) (p : Int) : FnOk Try.prog 4 [lnA l, mA p] (fun q => q = tbA true) := by
  refine fnOk_of (fn := Try.f4) 122 (by kernel_rfl) rfl (by kernel_rfl) (Nat.le_of_ble_eq_true rfl) ?_
  intro e_0 m_0 hA hm_0
  have s0_0 : evA e_0 (.tmp 0) = _ := hA 0 _ rfl
  have s1_0 : evA e_0 (.tmp 1) = _ := hA 1 _ rfl
  have ml_0 : m_0.length = 0 := by rw [hm_0]; rfl
  clear hA hm_0
  refine aw_seq ?_
  refine aw_text (by kernel_rfl) ?_
  refine al_stm (st_box s0_0 rfl ml_0) trivial rfl (fun m_1 hm_1 => ?_)
  have mo0_1 := m_push hm_1 ml_0
  have ml_1 := m_push_l hm_1 ml_0
  have ml_1 : _ = 1 := ml_1
  clear hm_1
  refine al_ro' (ro_assign ev_c) trivial rfl ?_
  refine al_end (fun e_2 he_2 => ?_)
  have s1_2 := ef 1 he_2 (u2 rfl s1_0)
  have s2_2 := ef 2 he_2 (up_m rfl up_h)
  clear he_2 s0_0 s1_0
  refine then_n ?_
  refine aw_seq ?_
  refine aw_seq ?_
  refine aw_text (by kernel_rfl) ?_
  refine al_ro' (ro_call evL_nil rfl (awake_ok) y29_hcf6) trivial rfl ?_
  refine al_ro' (ro_not up_h) trivial rfl ?_
  refine al_end (fun e_3 he_3 => ?_)
  have s1_3 := ef 1 he_3 (u2 rfl s1_2)
  have s2_3 := ef 2 he_3 (u2 rfl s2_2)
  have s16_3 := ef 16 he_3 up_h
  clear he_3 s1_2 s2_2
  refine then_n ?_
  refine aw_case s16_3 (fun hq_4 => ?_) (fun hq_4 => ?_)
  · replace hq_4 := bt' hq_4; cases hq_4
  replace hq_4 := bf' hq_4
  refine aw_skip ?_
  refine then_n ?_
  refine aw_seq ?_
  refine aw_seq ?_
  refine aw_text (by kernel_rfl) ?_
  refine al_ro' (ro_eq (ro_ld_ptr y29_ty26 rfl mo0_1 s2_3 (by exact Nat.le_of_ble_eq_true rfl)) (by simp only [packA_t, packA_f, iE, bE, setAt, cellsA, Value.cells, map_vc, map_vn, Nat.reduceAdd, qS] <;> rfl)) trivial rfl ?_
  refine al_ro' (ro_call (evL_cons up_h evL_nil) rfl ((fewL_ok l).mono (fun q h => h.trans (by rw [hf]))) y29_hcf7) trivial rfl ?_
  refine al_ro' (ro_not up_h) trivial rfl ?_
  refine al_end (fun e_5 he_5 => ?_)
  have s1_5 := ef 1 he_5 (up_m rfl (u2 rfl s1_3))
  have s2_5 := ef 2 he_5 (up_m rfl (u2 rfl s2_3))
  have s19_5 := ef 19 he_5 up_h
  clear he_5 s16_3 s1_3 s2_3
  refine then_n ?_
  refine aw_case s19_5 (fun hq_6 => ?_) (fun hq_6 => ?_)
  ·replace hq_6 := bt' hq_6
   refine aw_seq ?_
   refine aw_text (by kernel_rfl) ?_
   refine al_ro' (ro_assign ev_c) trivial rfl ?_
   refine al_end (fun e_7 he_7 => ?_)
   have s4_7 := ef 4 he_7 up_h
   clear he_7 s19_5 s1_5 s2_5
   refine then_n ?_
   refine aw_ret ?_
   refine then_r ?_
   refine ret1 (.inr rfl) (by kernel_rfl) (resV_tmp s4_7) (.ro _ rfl) ?_
   clear s4_7 mo0_1 ml_1
   rfl
  · replace hq_6 := bf' hq_6; cases hq_6
set_option maxRecDepth 100000 in
set_option maxHeartbeats 4000000 in
theorem linePlaces_bad (l : Lin) (hf : fewL l = true) (hb : (linM l).2 ≠ 0) (p : Int) : FnOk Try.prog 4 [lnA l, mA p] (fun q => q = tbA true) := by
  refine fnOk_of (fn := Try.f4) 122 (by kernel_rfl) rfl (by kernel_rfl) (Nat.le_of_ble_eq_true rfl) ?_
  intro e_0 m_0 hA hm_0
  have s0_0 : evA e_0 (.tmp 0) = _ := hA 0 _ rfl
  have s1_0 : evA e_0 (.tmp 1) = _ := hA 1 _ rfl
  have ml_0 : m_0.length = 0 := by rw [hm_0]; rfl
  clear hA hm_0
  have hl := fewL_sho hf
  refine aw_seq ?_
  refine aw_text (by kernel_rfl) ?_
  refine al_stm (st_box s0_0 rfl ml_0) trivial rfl (fun m_1 hm_1 => ?_)
  have mo0_1 := m_push hm_1 ml_0
  have ml_1 := m_push_l hm_1 ml_0
  have ml_1 : _ = 1 := ml_1
  clear hm_1
  refine al_ro' (ro_assign ev_c) trivial rfl ?_
  refine al_end (fun e_2 he_2 => ?_)
  have s1_2 := ef 1 he_2 (u2 rfl s1_0)
  have s2_2 := ef 2 he_2 (up_m rfl up_h)
  clear he_2 s0_0 s1_0
  refine then_n ?_
  refine aw_seq ?_
  refine aw_seq ?_
  refine aw_text (by kernel_rfl) ?_
  refine al_ro' (ro_call evL_nil rfl (awake_ok) y29_hcf6) trivial rfl ?_
  refine al_ro' (ro_not up_h) trivial rfl ?_
  refine al_end (fun e_3 he_3 => ?_)
  have s1_3 := ef 1 he_3 (u2 rfl s1_2)
  have s2_3 := ef 2 he_3 (u2 rfl s2_2)
  have s16_3 := ef 16 he_3 up_h
  clear he_3 s1_2 s2_2
  refine then_n ?_
  refine aw_case s16_3 (fun hq_4 => ?_) (fun hq_4 => ?_)
  · cases hq_4
  replace hq_4 := bf' hq_4
  refine aw_skip ?_
  refine then_n ?_
  refine aw_seq ?_
  refine aw_seq ?_
  refine aw_text (by kernel_rfl) ?_
  refine al_ro' (ro_eq (ro_ld_ptr y29_ty26 rfl mo0_1 s2_3 (by exact Nat.le_of_ble_eq_true rfl)) (by simp only [packA_t, packA_f, iE, bE, setAt, cellsA, Value.cells, map_vc, map_vn, Nat.reduceAdd, qS] <;> rfl)) trivial rfl ?_
  refine al_ro' (ro_call (evL_cons up_h evL_nil) rfl ((fewL_ok l).mono (fun q h => h.trans (by rw [hf]))) y29_hcf7) trivial rfl ?_
  refine al_ro' (ro_not up_h) trivial rfl ?_
  refine al_end (fun e_5 he_5 => ?_)
  have s1_5 := ef 1 he_5 (up_m rfl (u2 rfl s1_3))
  have s2_5 := ef 2 he_5 (up_m rfl (u2 rfl s2_3))
  have s19_5 := ef 19 he_5 up_h
  clear he_5 s16_3 s1_3 s2_3
  refine then_n ?_
  refine aw_case s19_5 (fun hq_6 => ?_) (fun hq_6 => ?_)
  · cases hq_6
  replace hq_6 := bf' hq_6
  refine aw_skip ?_
  refine then_n ?_
  refine aw_seq ?_
  refine aw_text (by kernel_rfl) ?_
  refine al_ro' (ro_eq (ro_ld_ptr y29_ty26 rfl mo0_1 s2_5 (by exact Nat.le_of_ble_eq_true rfl)) (by simp only [packA_t, packA_f, iE, bE, setAt, cellsA, Value.cells, map_vc, map_vn, Nat.reduceAdd, qS] <;> rfl)) trivial rfl ?_
  refine al_ro' (ro_call (evL_cons up_h evL_nil) rfl (yCopy_ok l hl) y29_hcf9) trivial rfl ?_
  refine al_ro' (ro_move (u2 rfl s1_5)) trivial rfl ?_
  refine al_ro' (ro_call (evL_cons (up_m rfl up_h) (evL_cons up_h evL_nil)) rfl (beamAt_bad l hl hb p) y29_hcf16) trivial rfl ?_
  refine al_ro' (ro_move up_h) trivial rfl ?_
  refine al_ro' (ro_extract up_h rfl) trivial rfl ?_
  refine al_ro' (ro_extract (up_m rfl up_h) rfl) trivial rfl ?_
  refine al_ro' (ro_extract (u2 rfl up_h) rfl) trivial rfl ?_
  refine al_ro' (ro_assign (u2 rfl up_h)) trivial rfl ?_
  refine al_ro' (ro_assign (u2 rfl up_h)) trivial rfl ?_
  refine al_ro' (ro_assign (u2 rfl up_h)) trivial rfl ?_
  refine al_end (fun e_7 he_7 => ?_)
  have s1_7 := ef 1 he_7 (up_m rfl (u2 rfl (u8 rfl s1_5)))
  have s2_7 := ef 2 he_7 (up_m rfl (u2 rfl (u8 rfl s2_5)))
  have s5_7 := ef 5 he_7 (u2 rfl up_h)
  have s6_7 := ef 6 he_7 (up_m rfl up_h)
  have s7_7 := ef 7 he_7 up_h
  clear he_7 s19_5 s1_5 s2_5
  refine then_n ?_
  refine aw_seq ?_
  refine aw_text (by kernel_rfl) ?_
  refine al_ro' (ro_eq (ro_ld_ptr y29_ty26 rfl mo0_1 s2_7 (by exact Nat.le_of_ble_eq_true rfl)) (by simp only [packA_t, packA_f, iE, bE, setAt, cellsA, Value.cells, map_vc, map_vn, Nat.reduceAdd, qS] <;> rfl)) trivial rfl ?_
  refine al_ro' (ro_call (evL_cons up_h evL_nil) rfl (yCopy_ok l hl) y29_hcf9) trivial rfl ?_
  refine al_ro' (ro_move (u2 rfl s1_7)) trivial rfl ?_
  refine al_ro' (ro_call (evL_cons (up_m rfl up_h) (evL_cons up_h evL_nil)) rfl (AcrossAt_bad l hl hb p) y29_hcf17) trivial rfl ?_
  refine al_ro' (ro_move up_h) trivial rfl ?_
  refine al_ro' (ro_extract up_h rfl) trivial rfl ?_
  refine al_ro' (ro_extract (up_m rfl up_h) rfl) trivial rfl ?_
  refine al_stm (st_alloc y29_az46 rfl ml_1) trivial rfl (fun m_8 hm_8 => ?_)
  have mo1_8 := m_push hm_8 ml_1
  simp only [packA_t, packA_f, iE, bE, setAt, cellsA, Value.cells, map_vc, map_vn, Nat.reduceAdd, qS] at mo1_8
  have mo0_8 := m_push_o hm_8 mo0_1
  have ml_8 := m_push_l hm_8 ml_1
  have ml_8 : _ = 2 := ml_8
  clear hm_8 mo0_1
  refine al_stm (st_store up_h (u2 rfl up_h) rfl rfl mo1_8 y29_sz46 rfl (by exact Nat.le_of_ble_eq_true rfl)) trivial rfl (fun m_9 hm_9 => ?_)
  have mo1_9 := m_set hm_9 mo1_8
  simp only [packA_t, packA_f, iE, bE, setAt, cellsA, Value.cells, map_vc, map_vn, Nat.reduceAdd, qS] at mo1_9
  have mo0_9 := m_set_o hm_9 mo0_8 (by decide)
  have ml_9 := m_set_l hm_9 ml_8
  clear hm_9 mo1_8 mo0_8
  refine al_ro' (ro_assign (up_n (up_m rfl up_h))) trivial rfl ?_
  refine al_end (fun e_10 he_10 => ?_)
  have s1_10 := ef 1 he_10 (up_m rfl (up_n (u8 rfl s1_7)))
  have s2_10 := ef 2 he_10 (up_m rfl (up_n (u8 rfl s2_7)))
  have s5_10 := ef 5 he_10 (up_m rfl (up_n (u8 rfl s5_7)))
  have s6_10 := ef 6 he_10 (up_m rfl (up_n (u8 rfl s6_7)))
  have s7_10 := ef 7 he_10 (up_m rfl (up_n (u8 rfl s7_7)))
  have s8_10 := ef 8 he_10 (up_m rfl (up_n up_h))
  have s9_10 := ef 9 he_10 up_h
  clear he_10 s1_7 s2_7 s5_7 s6_7 s7_7
  refine then_n ?_
  refine aw_seq ?_
  refine aw_text (by kernel_rfl) ?_
  refine al_ro' (ro_eq (ro_ld_ptr y29_ty26 rfl mo0_9 s2_10 (by exact Nat.le_of_ble_eq_true rfl)) (by simp only [packA_t, packA_f, iE, bE, setAt, cellsA, Value.cells, map_vc, map_vn, Nat.reduceAdd, qS] <;> rfl)) trivial rfl ?_
  refine al_ro' (ro_call (evL_cons up_h evL_nil) rfl (yCopy_ok l hl) y29_hcf9) trivial rfl ?_
  refine al_ro' (ro_move (u2 rfl s1_10)) trivial rfl ?_
  refine al_ro' (ro_call (evL_cons (up_m rfl up_h) (evL_cons up_h evL_nil)) rfl (UpAt_bad l hl hb p) y29_hcf18) trivial rfl ?_
  refine al_ro' (ro_move up_h) trivial rfl ?_
  refine al_ro' (ro_extract up_h rfl) trivial rfl ?_
  refine al_ro' (ro_extract (up_m rfl up_h) rfl) trivial rfl ?_
  refine al_stm (st_alloc y29_az46 rfl ml_9) trivial rfl (fun m_11 hm_11 => ?_)
  have mo2_11 := m_push hm_11 ml_9
  simp only [packA_t, packA_f, iE, bE, setAt, cellsA, Value.cells, map_vc, map_vn, Nat.reduceAdd, qS] at mo2_11
  have mo1_11 := m_push_o hm_11 mo1_9
  have mo0_11 := m_push_o hm_11 mo0_9
  have ml_11 := m_push_l hm_11 ml_9
  have ml_11 : _ = 3 := ml_11
  clear hm_11 mo1_9 mo0_9
  refine al_stm (st_store up_h (u2 rfl up_h) rfl rfl mo2_11 y29_sz46 rfl (by exact Nat.le_of_ble_eq_true rfl)) trivial rfl (fun m_12 hm_12 => ?_)
  have mo2_12 := m_set hm_12 mo2_11
  simp only [packA_t, packA_f, iE, bE, setAt, cellsA, Value.cells, map_vc, map_vn, Nat.reduceAdd, qS] at mo2_12
  have mo1_12 := m_set_o hm_12 mo1_11 (by decide)
  have mo0_12 := m_set_o hm_12 mo0_11 (by decide)
  have ml_12 := m_set_l hm_12 ml_11
  clear hm_12 mo2_11 mo1_11 mo0_11
  refine al_ro' (ro_assign (up_n (up_m rfl up_h))) trivial rfl ?_
  refine al_end (fun e_13 he_13 => ?_)
  have s1_13 := ef 1 he_13 (up_m rfl (up_n (u8 rfl s1_10)))
  have s2_13 := ef 2 he_13 (up_m rfl (up_n (u8 rfl s2_10)))
  have s5_13 := ef 5 he_13 (up_m rfl (up_n (u8 rfl s5_10)))
  have s6_13 := ef 6 he_13 (up_m rfl (up_n (u8 rfl s6_10)))
  have s7_13 := ef 7 he_13 (up_m rfl (up_n (u8 rfl s7_10)))
  have s8_13 := ef 8 he_13 (up_m rfl (up_n (u8 rfl s8_10)))
  have s9_13 := ef 9 he_13 (up_m rfl (up_n (u8 rfl s9_10)))
  have s10_13 := ef 10 he_13 (up_m rfl (up_n up_h))
  have s11_13 := ef 11 he_13 up_h
  clear he_13 s1_10 s2_10 s5_10 s6_10 s7_10 s8_10 s9_10
  refine then_n ?_
  refine aw_seq ?_
  refine aw_text (by kernel_rfl) ?_
  refine al_ro' (ro_eq (ro_ld_ptr y29_ty26 rfl mo0_12 s2_13 (by exact Nat.le_of_ble_eq_true rfl)) (by simp only [packA_t, packA_f, iE, bE, setAt, cellsA, Value.cells, map_vc, map_vn, Nat.reduceAdd, qS] <;> rfl)) trivial rfl ?_
  refine al_ro' (ro_call (evL_cons up_h evL_nil) rfl (lineErr_ok l hl) y29_hcf19) trivial rfl ?_
  refine al_ro' (ro_assign up_h) trivial rfl ?_
  refine al_end (fun e_14 he_14 => ?_)
  have s1_14 := ef 1 he_14 (up_m rfl (u2 rfl s1_13))
  have s2_14 := ef 2 he_14 (up_m rfl (u2 rfl s2_13))
  have s5_14 := ef 5 he_14 (up_m rfl (u2 rfl s5_13))
  have s6_14 := ef 6 he_14 (up_m rfl (u2 rfl s6_13))
  have s7_14 := ef 7 he_14 (up_m rfl (u2 rfl s7_13))
  have s8_14 := ef 8 he_14 (up_m rfl (u2 rfl s8_13))
  have s9_14 := ef 9 he_14 (up_m rfl (u2 rfl s9_13))
  have s10_14 := ef 10 he_14 (up_m rfl (u2 rfl s10_13))
  have s11_14 := ef 11 he_14 (up_m rfl (u2 rfl s11_13))
  have s12_14 := ef 12 he_14 up_h
  clear he_14 s10_13 s11_13 s1_13 s2_13 s5_13 s6_13 s7_13 s8_13 s9_13
  refine then_n ?_
  refine aw_seq ?_
  refine aw_seq ?_
  refine aw_text (by kernel_rfl) ?_
  refine al_ro' (ro_move s12_14) trivial rfl ?_
  refine al_ro' (ro_eql up_h ev_c) trivial rfl ?_
  refine al_end (fun e_15 he_15 => ?_)
  have s1_15 := ef 1 he_15 (u2 rfl s1_14)
  have s2_15 := ef 2 he_15 (u2 rfl s2_14)
  have s5_15 := ef 5 he_15 (u2 rfl s5_14)
  have s6_15 := ef 6 he_15 (u2 rfl s6_14)
  have s7_15 := ef 7 he_15 (u2 rfl s7_14)
  have s8_15 := ef 8 he_15 (u2 rfl s8_14)
  have s9_15 := ef 9 he_15 (u2 rfl s9_14)
  have s10_15 := ef 10 he_15 (u2 rfl s10_14)
  have s11_15 := ef 11 he_15 (u2 rfl s11_14)
  have s12_15 := ef 12 he_15 (u2 rfl s12_14)
  have s45_15 := ef 45 he_15 up_h
  clear he_15 s10_14 s11_14 s12_14 s1_14 s2_14 s5_14 s6_14 s7_14 s8_14 s9_14
  refine then_n ?_
  refine aw_case s45_15 (fun hq_16 => ?_) (fun hq_16 => ?_)
  · replace hq_16 := bt hq_16; exfalso; omega
  replace hq_16 := bf hq_16
  refine aw_skip ?_
  refine then_n ?_
  refine aw_seq ?_
  refine aw_seq ?_
  refine aw_text (by kernel_rfl) ?_
  refine al_ro' (ro_move s12_15) trivial rfl ?_
  refine al_ro' (ro_neq up_h ev_c) trivial rfl ?_
  refine al_end (fun e_17 he_17 => ?_)
  have s1_17 := ef 1 he_17 (u2 rfl s1_15)
  have s2_17 := ef 2 he_17 (u2 rfl s2_15)
  have s5_17 := ef 5 he_17 (u2 rfl s5_15)
  have s6_17 := ef 6 he_17 (u2 rfl s6_15)
  have s7_17 := ef 7 he_17 (u2 rfl s7_15)
  have s8_17 := ef 8 he_17 (u2 rfl s8_15)
  have s9_17 := ef 9 he_17 (u2 rfl s9_15)
  have s10_17 := ef 10 he_17 (u2 rfl s10_15)
  have s11_17 := ef 11 he_17 (u2 rfl s11_15)
  have s12_17 := ef 12 he_17 (u2 rfl s12_15)
  have s50_17 := ef 50 he_17 up_h
  clear he_17 s10_15 s11_15 s12_15 s1_15 s2_15 s45_15 s5_15 s6_15 s7_15 s8_15 s9_15
  refine then_n ?_
  refine aw_case s50_17 (fun hq_18 => ?_) (fun hq_18 => ?_)
  ·replace hq_18 := bnt hq_18
   refine aw_seq ?_
   refine aw_text (by kernel_rfl) ?_
   refine al_ro' (ro_move s7_17) trivial rfl ?_
   refine al_ro' (ro_move (up_m rfl s12_17)) trivial rfl ?_
   refine al_ro' (ro_eql (up_m rfl up_h) up_h) trivial rfl ?_
   refine al_ro' (ro_move up_h) trivial rfl ?_
   refine al_case up_h (fun hb_19 hq_19 => ?_) (fun hb_19 hq_19 => ?_)
   ·replace hq_19 := bt hq_19
    refine al_ro' (ro_move (u4 rfl s9_17)) ⟨_, rfl, hb_19⟩ rfl ?_
    refine al_ro' (ro_move (up_m rfl (u4 rfl s12_17))) ⟨_, rfl, (up_m rfl hb_19)⟩ rfl ?_
    refine al_ro' (ro_eql (up_m rfl up_h) up_h) ⟨_, rfl, (u2 rfl hb_19)⟩ rfl ?_
    refine al_ro' (ro_pickT (up_m rfl (u2 rfl hb_19)) up_h) trivial rfl ?_
    refine al_ro' (ro_move up_h) trivial rfl ?_
    refine al_case up_h (fun hb_20 hq_20 => ?_) (fun hb_20 hq_20 => ?_)
    ·replace hq_20 := bt hq_20
     refine al_ro' (ro_move (up_m rfl (u8 rfl s11_17))) ⟨_, rfl, hb_20⟩ rfl ?_
     refine al_ro' (ro_move (u2 rfl (u8 rfl s12_17))) ⟨_, rfl, (up_m rfl hb_20)⟩ rfl ?_
     refine al_ro' (ro_eql (up_m rfl up_h) up_h) ⟨_, rfl, (u2 rfl hb_20)⟩ rfl ?_
     refine al_ro' (ro_pickT (up_m rfl (u2 rfl hb_20)) up_h) trivial rfl ?_
     refine al_ro' (ro_move up_h) trivial rfl ?_
     refine al_case up_h (fun hb_21 hq_21 => ?_) (fun hb_21 hq_21 => ?_)
     ·replace hq_21 := bt hq_21
      refine al_ro' (ro_move (u2 rfl (u4 rfl (u8 rfl s5_17)))) ⟨_, rfl, hb_21⟩ rfl ?_
      refine al_ro' (ro_eql up_h ev_c) ⟨_, rfl, (up_m rfl hb_21)⟩ rfl ?_
      refine al_ro' (ro_pickT (u2 rfl hb_21) up_h) trivial rfl ?_
      refine al_ro' (ro_move up_h) trivial rfl ?_
      refine al_case up_h (fun hb_22 hq_22 => ?_) (fun hb_22 hq_22 => ?_)
      ·replace hq_22 := bt hq_22
       refine al_ro' (ro_move (u2 rfl (u16 rfl s6_17))) ⟨_, rfl, hb_22⟩ rfl ?_
       refine al_ro' (ro_eql up_h ev_c) ⟨_, rfl, (up_m rfl hb_22)⟩ rfl ?_
       refine al_ro' (ro_pickT (u2 rfl hb_22) up_h) trivial rfl ?_
       refine al_ro' (ro_move up_h) trivial rfl ?_
       refine al_case up_h (fun hb_23 hq_23 => ?_) (fun hb_23 hq_23 => ?_)
       ·replace hq_23 := bt hq_23
        refine al_ro' (ro_eq (ro_ld_ptr y29_ty46 rfl mo1_12 (u2 rfl (u4 rfl (u16 rfl s8_17))) (by exact Nat.le_of_ble_eq_true rfl)) (by simp only [packA_t, packA_f, iE, bE, setAt, cellsA, Value.cells, map_vc, map_vn, Nat.reduceAdd, qS] <;> rfl)) ⟨_, rfl, hb_23⟩ rfl ?_
        refine al_ro' (ro_build evP_nil y29_bz46 y29_bu46 y29_bp46 rfl) ⟨_, rfl, (up_m rfl hb_23)⟩ rfl ?_
        refine al_ro' (ro_sqeql (up_m rfl up_h) up_h rfl rfl y29_gq46 y29_sq46 (by decide)) ⟨_, rfl, (u2 rfl hb_23)⟩ rfl ?_
        refine al_ro' (ro_pickT (up_m rfl (u2 rfl hb_23)) up_h) trivial rfl ?_
        refine al_ro' (ro_move up_h) trivial rfl ?_
        refine al_case up_h (fun hb_24 hq_24 => ?_) (fun hb_24 hq_24 => ?_)
        ·skip
         refine al_ro' (ro_eq (ro_ld_ptr y29_ty46 rfl mo2_12 (up_m rfl (u2 rfl (u8 rfl (u16 rfl s10_17)))) (by exact Nat.le_of_ble_eq_true rfl)) (by simp only [packA_t, packA_f, iE, bE, setAt, cellsA, Value.cells, map_vc, map_vn, Nat.reduceAdd, qS] <;> rfl)) ⟨_, rfl, hb_24⟩ rfl ?_
         refine al_ro' (ro_build evP_nil y29_bz46 y29_bu46 y29_bp46 rfl) ⟨_, rfl, (up_m rfl hb_24)⟩ rfl ?_
         refine al_ro' (ro_sqeql (up_m rfl up_h) up_h rfl rfl y29_gq46 y29_sq46 (by decide)) ⟨_, rfl, (u2 rfl hb_24)⟩ rfl ?_
         refine al_ro' (ro_pickT (up_m rfl (u2 rfl hb_24)) up_h) trivial rfl ?_
         refine al_ro' (ro_assign up_h) trivial rfl ?_
         refine al_end (fun e_25 he_25 => ?_)
         have s4_25 := ef 4 he_25 up_h
         clear he_25 hb_19 hb_20 hb_21 hb_22 hb_23 hb_24 s10_17 s11_17 s12_17 s1_17 s2_17 s50_17 s5_17 s6_17 s7_17 s8_17 s9_17
         refine then_n ?_
         refine aw_ret ?_
         refine then_r ?_
         refine ret1 (.inr rfl) (by kernel_rfl) (resV_tmp s4_25) (.ro _ rfl) ?_
         clear s4_25 mo2_12 mo1_12 mo0_12 ml_12
         simp_all
        · cases hq_24
       · cases hq_23
      · cases hq_22
     · replace hq_21 := bf hq_21; exfalso; omega
    · replace hq_20 := bf hq_20; exfalso; omega
   · replace hq_19 := bf hq_19; exfalso; omega
  · replace hq_18 := bnf hq_18; exfalso; omega
set_option maxRecDepth 100000 in
set_option maxHeartbeats 4000000 in
theorem linePlaces_out (l : Lin) (hf : fewL l = true) (hg : (linM l).2 = 0) (p : Int) (hm : plaE l p ≠ 0) : FnOk Try.prog 4 [lnA l, mA p] (fun q => q = tbA true) := by
  refine fnOk_of (fn := Try.f4) 122 (by kernel_rfl) rfl (by kernel_rfl) (Nat.le_of_ble_eq_true rfl) ?_
  intro e_0 m_0 hA hm_0
  have s0_0 : evA e_0 (.tmp 0) = _ := hA 0 _ rfl
  have s1_0 : evA e_0 (.tmp 1) = _ := hA 1 _ rfl
  have ml_0 : m_0.length = 0 := by rw [hm_0]; rfl
  clear hA hm_0
  have hl := fewL_sho hf; have hr := rgt_of hg
  refine aw_seq ?_
  refine aw_text (by kernel_rfl) ?_
  refine al_stm (st_box s0_0 rfl ml_0) trivial rfl (fun m_1 hm_1 => ?_)
  have mo0_1 := m_push hm_1 ml_0
  have ml_1 := m_push_l hm_1 ml_0
  have ml_1 : _ = 1 := ml_1
  clear hm_1
  refine al_ro' (ro_assign ev_c) trivial rfl ?_
  refine al_end (fun e_2 he_2 => ?_)
  have s1_2 := ef 1 he_2 (u2 rfl s1_0)
  have s2_2 := ef 2 he_2 (up_m rfl up_h)
  clear he_2 s0_0 s1_0
  refine then_n ?_
  refine aw_seq ?_
  refine aw_seq ?_
  refine aw_text (by kernel_rfl) ?_
  refine al_ro' (ro_call evL_nil rfl (awake_ok) y29_hcf6) trivial rfl ?_
  refine al_ro' (ro_not up_h) trivial rfl ?_
  refine al_end (fun e_3 he_3 => ?_)
  have s1_3 := ef 1 he_3 (u2 rfl s1_2)
  have s2_3 := ef 2 he_3 (u2 rfl s2_2)
  have s16_3 := ef 16 he_3 up_h
  clear he_3 s1_2 s2_2
  refine then_n ?_
  refine aw_case s16_3 (fun hq_4 => ?_) (fun hq_4 => ?_)
  · cases hq_4
  replace hq_4 := bf' hq_4
  refine aw_skip ?_
  refine then_n ?_
  refine aw_seq ?_
  refine aw_seq ?_
  refine aw_text (by kernel_rfl) ?_
  refine al_ro' (ro_eq (ro_ld_ptr y29_ty26 rfl mo0_1 s2_3 (by exact Nat.le_of_ble_eq_true rfl)) (by simp only [packA_t, packA_f, iE, bE, setAt, cellsA, Value.cells, map_vc, map_vn, Nat.reduceAdd, qS] <;> rfl)) trivial rfl ?_
  refine al_ro' (ro_call (evL_cons up_h evL_nil) rfl ((fewL_ok l).mono (fun q h => h.trans (by rw [hf]))) y29_hcf7) trivial rfl ?_
  refine al_ro' (ro_not up_h) trivial rfl ?_
  refine al_end (fun e_5 he_5 => ?_)
  have s1_5 := ef 1 he_5 (up_m rfl (u2 rfl s1_3))
  have s2_5 := ef 2 he_5 (up_m rfl (u2 rfl s2_3))
  have s19_5 := ef 19 he_5 up_h
  clear he_5 s16_3 s1_3 s2_3
  refine then_n ?_
  refine aw_case s19_5 (fun hq_6 => ?_) (fun hq_6 => ?_)
  · cases hq_6
  replace hq_6 := bf' hq_6
  refine aw_skip ?_
  refine then_n ?_
  refine aw_seq ?_
  refine aw_text (by kernel_rfl) ?_
  refine al_ro' (ro_eq (ro_ld_ptr y29_ty26 rfl mo0_1 s2_5 (by exact Nat.le_of_ble_eq_true rfl)) (by simp only [packA_t, packA_f, iE, bE, setAt, cellsA, Value.cells, map_vc, map_vn, Nat.reduceAdd, qS] <;> rfl)) trivial rfl ?_
  refine al_ro' (ro_call (evL_cons up_h evL_nil) rfl (yCopy_ok l hl) y29_hcf9) trivial rfl ?_
  refine al_ro' (ro_move (u2 rfl s1_5)) trivial rfl ?_
  refine al_ro' (ro_call (evL_cons (up_m rfl up_h) (evL_cons up_h evL_nil)) rfl (beamAt_out l hl hg p hm) y29_hcf16) trivial rfl ?_
  refine al_ro' (ro_move up_h) trivial rfl ?_
  refine al_ro' (ro_extract up_h rfl) trivial rfl ?_
  refine al_ro' (ro_extract (up_m rfl up_h) rfl) trivial rfl ?_
  refine al_ro' (ro_extract (u2 rfl up_h) rfl) trivial rfl ?_
  refine al_ro' (ro_assign (u2 rfl up_h)) trivial rfl ?_
  refine al_ro' (ro_assign (u2 rfl up_h)) trivial rfl ?_
  refine al_ro' (ro_assign (u2 rfl up_h)) trivial rfl ?_
  refine al_end (fun e_7 he_7 => ?_)
  have s1_7 := ef 1 he_7 (up_m rfl (u2 rfl (u8 rfl s1_5)))
  have s2_7 := ef 2 he_7 (up_m rfl (u2 rfl (u8 rfl s2_5)))
  have s5_7 := ef 5 he_7 (u2 rfl up_h)
  have s6_7 := ef 6 he_7 (up_m rfl up_h)
  have s7_7 := ef 7 he_7 up_h
  clear he_7 s19_5 s1_5 s2_5
  refine then_n ?_
  refine aw_seq ?_
  refine aw_text (by kernel_rfl) ?_
  refine al_ro' (ro_eq (ro_ld_ptr y29_ty26 rfl mo0_1 s2_7 (by exact Nat.le_of_ble_eq_true rfl)) (by simp only [packA_t, packA_f, iE, bE, setAt, cellsA, Value.cells, map_vc, map_vn, Nat.reduceAdd, qS] <;> rfl)) trivial rfl ?_
  refine al_ro' (ro_call (evL_cons up_h evL_nil) rfl (yCopy_ok l hl) y29_hcf9) trivial rfl ?_
  refine al_ro' (ro_move (u2 rfl s1_7)) trivial rfl ?_
  refine al_ro' (ro_call (evL_cons (up_m rfl up_h) (evL_cons up_h evL_nil)) rfl (AcrossAt_out l hl hg p hm) y29_hcf17) trivial rfl ?_
  refine al_ro' (ro_move up_h) trivial rfl ?_
  refine al_ro' (ro_extract up_h rfl) trivial rfl ?_
  refine al_ro' (ro_extract (up_m rfl up_h) rfl) trivial rfl ?_
  refine al_stm (st_alloc y29_az46 rfl ml_1) trivial rfl (fun m_8 hm_8 => ?_)
  have mo1_8 := m_push hm_8 ml_1
  simp only [packA_t, packA_f, iE, bE, setAt, cellsA, Value.cells, map_vc, map_vn, Nat.reduceAdd, qS] at mo1_8
  have mo0_8 := m_push_o hm_8 mo0_1
  have ml_8 := m_push_l hm_8 ml_1
  have ml_8 : _ = 2 := ml_8
  clear hm_8 mo0_1
  refine al_stm (st_store up_h (u2 rfl up_h) rfl rfl mo1_8 y29_sz46 rfl (by exact Nat.le_of_ble_eq_true rfl)) trivial rfl (fun m_9 hm_9 => ?_)
  have mo1_9 := m_set hm_9 mo1_8
  simp only [packA_t, packA_f, iE, bE, setAt, cellsA, Value.cells, map_vc, map_vn, Nat.reduceAdd, qS] at mo1_9
  have mo0_9 := m_set_o hm_9 mo0_8 (by decide)
  have ml_9 := m_set_l hm_9 ml_8
  clear hm_9 mo1_8 mo0_8
  refine al_ro' (ro_assign (up_n (up_m rfl up_h))) trivial rfl ?_
  refine al_end (fun e_10 he_10 => ?_)
  have s1_10 := ef 1 he_10 (up_m rfl (up_n (u8 rfl s1_7)))
  have s2_10 := ef 2 he_10 (up_m rfl (up_n (u8 rfl s2_7)))
  have s5_10 := ef 5 he_10 (up_m rfl (up_n (u8 rfl s5_7)))
  have s6_10 := ef 6 he_10 (up_m rfl (up_n (u8 rfl s6_7)))
  have s7_10 := ef 7 he_10 (up_m rfl (up_n (u8 rfl s7_7)))
  have s8_10 := ef 8 he_10 (up_m rfl (up_n up_h))
  have s9_10 := ef 9 he_10 up_h
  clear he_10 s1_7 s2_7 s5_7 s6_7 s7_7
  refine then_n ?_
  refine aw_seq ?_
  refine aw_text (by kernel_rfl) ?_
  refine al_ro' (ro_eq (ro_ld_ptr y29_ty26 rfl mo0_9 s2_10 (by exact Nat.le_of_ble_eq_true rfl)) (by simp only [packA_t, packA_f, iE, bE, setAt, cellsA, Value.cells, map_vc, map_vn, Nat.reduceAdd, qS] <;> rfl)) trivial rfl ?_
  refine al_ro' (ro_call (evL_cons up_h evL_nil) rfl (yCopy_ok l hl) y29_hcf9) trivial rfl ?_
  refine al_ro' (ro_move (u2 rfl s1_10)) trivial rfl ?_
  refine al_ro' (ro_call (evL_cons (up_m rfl up_h) (evL_cons up_h evL_nil)) rfl (UpAt_out l hl hg p hm) y29_hcf18) trivial rfl ?_
  refine al_ro' (ro_move up_h) trivial rfl ?_
  refine al_ro' (ro_extract up_h rfl) trivial rfl ?_
  refine al_ro' (ro_extract (up_m rfl up_h) rfl) trivial rfl ?_
  refine al_stm (st_alloc y29_az46 rfl ml_9) trivial rfl (fun m_11 hm_11 => ?_)
  have mo2_11 := m_push hm_11 ml_9
  simp only [packA_t, packA_f, iE, bE, setAt, cellsA, Value.cells, map_vc, map_vn, Nat.reduceAdd, qS] at mo2_11
  have mo1_11 := m_push_o hm_11 mo1_9
  have mo0_11 := m_push_o hm_11 mo0_9
  have ml_11 := m_push_l hm_11 ml_9
  have ml_11 : _ = 3 := ml_11
  clear hm_11 mo1_9 mo0_9
  refine al_stm (st_store up_h (u2 rfl up_h) rfl rfl mo2_11 y29_sz46 rfl (by exact Nat.le_of_ble_eq_true rfl)) trivial rfl (fun m_12 hm_12 => ?_)
  have mo2_12 := m_set hm_12 mo2_11
  simp only [packA_t, packA_f, iE, bE, setAt, cellsA, Value.cells, map_vc, map_vn, Nat.reduceAdd, qS] at mo2_12
  have mo1_12 := m_set_o hm_12 mo1_11 (by decide)
  have mo0_12 := m_set_o hm_12 mo0_11 (by decide)
  have ml_12 := m_set_l hm_12 ml_11
  clear hm_12 mo2_11 mo1_11 mo0_11
  refine al_ro' (ro_assign (up_n (up_m rfl up_h))) trivial rfl ?_
  refine al_end (fun e_13 he_13 => ?_)
  have s1_13 := ef 1 he_13 (up_m rfl (up_n (u8 rfl s1_10)))
  have s2_13 := ef 2 he_13 (up_m rfl (up_n (u8 rfl s2_10)))
  have s5_13 := ef 5 he_13 (up_m rfl (up_n (u8 rfl s5_10)))
  have s6_13 := ef 6 he_13 (up_m rfl (up_n (u8 rfl s6_10)))
  have s7_13 := ef 7 he_13 (up_m rfl (up_n (u8 rfl s7_10)))
  have s8_13 := ef 8 he_13 (up_m rfl (up_n (u8 rfl s8_10)))
  have s9_13 := ef 9 he_13 (up_m rfl (up_n (u8 rfl s9_10)))
  have s10_13 := ef 10 he_13 (up_m rfl (up_n up_h))
  have s11_13 := ef 11 he_13 up_h
  clear he_13 s1_10 s2_10 s5_10 s6_10 s7_10 s8_10 s9_10
  refine then_n ?_
  refine aw_seq ?_
  refine aw_text (by kernel_rfl) ?_
  refine al_ro' (ro_eq (ro_ld_ptr y29_ty26 rfl mo0_12 s2_13 (by exact Nat.le_of_ble_eq_true rfl)) (by simp only [packA_t, packA_f, iE, bE, setAt, cellsA, Value.cells, map_vc, map_vn, Nat.reduceAdd, qS] <;> rfl)) trivial rfl ?_
  refine al_ro' (ro_call (evL_cons up_h evL_nil) rfl (lineErr_ok l hl) y29_hcf19) trivial rfl ?_
  refine al_ro' (ro_assign up_h) trivial rfl ?_
  refine al_end (fun e_14 he_14 => ?_)
  have s1_14 := ef 1 he_14 (up_m rfl (u2 rfl s1_13))
  have s2_14 := ef 2 he_14 (up_m rfl (u2 rfl s2_13))
  have s5_14 := ef 5 he_14 (up_m rfl (u2 rfl s5_13))
  have s6_14 := ef 6 he_14 (up_m rfl (u2 rfl s6_13))
  have s7_14 := ef 7 he_14 (up_m rfl (u2 rfl s7_13))
  have s8_14 := ef 8 he_14 (up_m rfl (u2 rfl s8_13))
  have s9_14 := ef 9 he_14 (up_m rfl (u2 rfl s9_13))
  have s10_14 := ef 10 he_14 (up_m rfl (u2 rfl s10_13))
  have s11_14 := ef 11 he_14 (up_m rfl (u2 rfl s11_13))
  have s12_14 := ef 12 he_14 up_h
  clear he_14 s10_13 s11_13 s1_13 s2_13 s5_13 s6_13 s7_13 s8_13 s9_13
  refine then_n ?_
  refine aw_seq ?_
  refine aw_seq ?_
  refine aw_text (by kernel_rfl) ?_
  refine al_ro' (ro_move s12_14) trivial rfl ?_
  refine al_ro' (ro_eql up_h ev_c) trivial rfl ?_
  refine al_end (fun e_15 he_15 => ?_)
  have s1_15 := ef 1 he_15 (u2 rfl s1_14)
  have s2_15 := ef 2 he_15 (u2 rfl s2_14)
  have s5_15 := ef 5 he_15 (u2 rfl s5_14)
  have s6_15 := ef 6 he_15 (u2 rfl s6_14)
  have s7_15 := ef 7 he_15 (u2 rfl s7_14)
  have s8_15 := ef 8 he_15 (u2 rfl s8_14)
  have s9_15 := ef 9 he_15 (u2 rfl s9_14)
  have s10_15 := ef 10 he_15 (u2 rfl s10_14)
  have s11_15 := ef 11 he_15 (u2 rfl s11_14)
  have s12_15 := ef 12 he_15 (u2 rfl s12_14)
  have s45_15 := ef 45 he_15 up_h
  clear he_15 s10_14 s11_14 s12_14 s1_14 s2_14 s5_14 s6_14 s7_14 s8_14 s9_14
  refine then_n ?_
  refine aw_case s45_15 (fun hq_16 => ?_) (fun hq_16 => ?_)
  ·replace hq_16 := bt hq_16
   refine aw_text (by kernel_rfl) ?_
   refine al_ro' (ro_eq (ro_ld_ptr y29_ty26 rfl mo0_12 s2_15 (by exact Nat.le_of_ble_eq_true rfl)) (by simp only [packA_t, packA_f, iE, bE, setAt, cellsA, Value.cells, map_vc, map_vn, Nat.reduceAdd, qS] <;> rfl)) trivial rfl ?_
   refine al_ro' (ro_move (up_m rfl s1_15)) trivial rfl ?_
   refine al_ro' (ro_call (evL_cons (up_m rfl up_h) (evL_cons up_h evL_nil)) rfl (rPlaceErr_ok l hr p) y29_hcf20) trivial rfl ?_
   refine al_ro' (ro_assign up_h) trivial rfl ?_
   refine al_end (fun e_17 he_17 => ?_)
   have s1_17 := ef 1 he_17 (u4 rfl s1_15)
   have s2_17 := ef 2 he_17 (u4 rfl s2_15)
   have s5_17 := ef 5 he_17 (u4 rfl s5_15)
   have s6_17 := ef 6 he_17 (u4 rfl s6_15)
   have s7_17 := ef 7 he_17 (u4 rfl s7_15)
   have s8_17 := ef 8 he_17 (u4 rfl s8_15)
   have s9_17 := ef 9 he_17 (u4 rfl s9_15)
   have s10_17 := ef 10 he_17 (u4 rfl s10_15)
   have s11_17 := ef 11 he_17 (u4 rfl s11_15)
   have s12_17 := ef 12 he_17 up_h
   clear he_17 s10_15 s11_15 s12_15 s1_15 s2_15 s45_15 s5_15 s6_15 s7_15 s8_15 s9_15
   refine then_n ?_
   refine aw_seq ?_
   refine aw_seq ?_
   refine aw_text (by kernel_rfl) ?_
   refine al_ro' (ro_move s12_17) trivial rfl ?_
   refine al_ro' (ro_neq up_h ev_c) trivial rfl ?_
   refine al_end (fun e_18 he_18 => ?_)
   have s1_18 := ef 1 he_18 (u2 rfl s1_17)
   have s2_18 := ef 2 he_18 (u2 rfl s2_17)
   have s5_18 := ef 5 he_18 (u2 rfl s5_17)
   have s6_18 := ef 6 he_18 (u2 rfl s6_17)
   have s7_18 := ef 7 he_18 (u2 rfl s7_17)
   have s8_18 := ef 8 he_18 (u2 rfl s8_17)
   have s9_18 := ef 9 he_18 (u2 rfl s9_17)
   have s10_18 := ef 10 he_18 (u2 rfl s10_17)
   have s11_18 := ef 11 he_18 (u2 rfl s11_17)
   have s12_18 := ef 12 he_18 (u2 rfl s12_17)
   have s50_18 := ef 50 he_18 up_h
   clear he_18 s10_17 s11_17 s12_17 s1_17 s2_17 s5_17 s6_17 s7_17 s8_17 s9_17
   refine then_n ?_
   refine aw_case s50_18 (fun hq_19 => ?_) (fun hq_19 => ?_)
   ·replace hq_19 := bnt hq_19
    refine aw_seq ?_
    refine aw_text (by kernel_rfl) ?_
    refine al_ro' (ro_move s7_18) trivial rfl ?_
    refine al_ro' (ro_move (up_m rfl s12_18)) trivial rfl ?_
    refine al_ro' (ro_eql (up_m rfl up_h) up_h) trivial rfl ?_
    refine al_ro' (ro_move up_h) trivial rfl ?_
    refine al_case up_h (fun hb_20 hq_20 => ?_) (fun hb_20 hq_20 => ?_)
    ·replace hq_20 := bt hq_20
     refine al_ro' (ro_move (u4 rfl s9_18)) ⟨_, rfl, hb_20⟩ rfl ?_
     refine al_ro' (ro_move (up_m rfl (u4 rfl s12_18))) ⟨_, rfl, (up_m rfl hb_20)⟩ rfl ?_
     refine al_ro' (ro_eql (up_m rfl up_h) up_h) ⟨_, rfl, (u2 rfl hb_20)⟩ rfl ?_
     refine al_ro' (ro_pickT (up_m rfl (u2 rfl hb_20)) up_h) trivial rfl ?_
     refine al_ro' (ro_move up_h) trivial rfl ?_
     refine al_case up_h (fun hb_21 hq_21 => ?_) (fun hb_21 hq_21 => ?_)
     ·replace hq_21 := bt hq_21
      refine al_ro' (ro_move (up_m rfl (u8 rfl s11_18))) ⟨_, rfl, hb_21⟩ rfl ?_
      refine al_ro' (ro_move (u2 rfl (u8 rfl s12_18))) ⟨_, rfl, (up_m rfl hb_21)⟩ rfl ?_
      refine al_ro' (ro_eql (up_m rfl up_h) up_h) ⟨_, rfl, (u2 rfl hb_21)⟩ rfl ?_
      refine al_ro' (ro_pickT (up_m rfl (u2 rfl hb_21)) up_h) trivial rfl ?_
      refine al_ro' (ro_move up_h) trivial rfl ?_
      refine al_case up_h (fun hb_22 hq_22 => ?_) (fun hb_22 hq_22 => ?_)
      ·replace hq_22 := bt hq_22
       refine al_ro' (ro_move (u2 rfl (u4 rfl (u8 rfl s5_18)))) ⟨_, rfl, hb_22⟩ rfl ?_
       refine al_ro' (ro_eql up_h ev_c) ⟨_, rfl, (up_m rfl hb_22)⟩ rfl ?_
       refine al_ro' (ro_pickT (u2 rfl hb_22) up_h) trivial rfl ?_
       refine al_ro' (ro_move up_h) trivial rfl ?_
       refine al_case up_h (fun hb_23 hq_23 => ?_) (fun hb_23 hq_23 => ?_)
       ·replace hq_23 := bt hq_23
        refine al_ro' (ro_move (u2 rfl (u16 rfl s6_18))) ⟨_, rfl, hb_23⟩ rfl ?_
        refine al_ro' (ro_eql up_h ev_c) ⟨_, rfl, (up_m rfl hb_23)⟩ rfl ?_
        refine al_ro' (ro_pickT (u2 rfl hb_23) up_h) trivial rfl ?_
        refine al_ro' (ro_move up_h) trivial rfl ?_
        refine al_case up_h (fun hb_24 hq_24 => ?_) (fun hb_24 hq_24 => ?_)
        ·replace hq_24 := bt hq_24
         refine al_ro' (ro_eq (ro_ld_ptr y29_ty46 rfl mo1_12 (u2 rfl (u4 rfl (u16 rfl s8_18))) (by exact Nat.le_of_ble_eq_true rfl)) (by simp only [packA_t, packA_f, iE, bE, setAt, cellsA, Value.cells, map_vc, map_vn, Nat.reduceAdd, qS] <;> rfl)) ⟨_, rfl, hb_24⟩ rfl ?_
         refine al_ro' (ro_build evP_nil y29_bz46 y29_bu46 y29_bp46 rfl) ⟨_, rfl, (up_m rfl hb_24)⟩ rfl ?_
         refine al_ro' (ro_sqeql (up_m rfl up_h) up_h rfl rfl y29_gq46 y29_sq46 (by decide)) ⟨_, rfl, (u2 rfl hb_24)⟩ rfl ?_
         refine al_ro' (ro_pickT (up_m rfl (u2 rfl hb_24)) up_h) trivial rfl ?_
         refine al_ro' (ro_move up_h) trivial rfl ?_
         refine al_case up_h (fun hb_25 hq_25 => ?_) (fun hb_25 hq_25 => ?_)
         ·skip
          refine al_ro' (ro_eq (ro_ld_ptr y29_ty46 rfl mo2_12 (up_m rfl (u2 rfl (u8 rfl (u16 rfl s10_18)))) (by exact Nat.le_of_ble_eq_true rfl)) (by simp only [packA_t, packA_f, iE, bE, setAt, cellsA, Value.cells, map_vc, map_vn, Nat.reduceAdd, qS] <;> rfl)) ⟨_, rfl, hb_25⟩ rfl ?_
          refine al_ro' (ro_build evP_nil y29_bz46 y29_bu46 y29_bp46 rfl) ⟨_, rfl, (up_m rfl hb_25)⟩ rfl ?_
          refine al_ro' (ro_sqeql (up_m rfl up_h) up_h rfl rfl y29_gq46 y29_sq46 (by decide)) ⟨_, rfl, (u2 rfl hb_25)⟩ rfl ?_
          refine al_ro' (ro_pickT (up_m rfl (u2 rfl hb_25)) up_h) trivial rfl ?_
          refine al_ro' (ro_assign up_h) trivial rfl ?_
          refine al_end (fun e_26 he_26 => ?_)
          have s4_26 := ef 4 he_26 up_h
          clear he_26 hb_20 hb_21 hb_22 hb_23 hb_24 hb_25 s10_18 s11_18 s12_18 s1_18 s2_18 s50_18 s5_18 s6_18 s7_18 s8_18 s9_18
          refine then_n ?_
          refine aw_ret ?_
          refine then_r ?_
          refine ret1 (.inr rfl) (by kernel_rfl) (resV_tmp s4_26) (.ro _ rfl) ?_
          clear s4_26 mo2_12 mo1_12 mo0_12 ml_12
          simp_all
         · cases hq_25
        · cases hq_24
       · cases hq_23
      · replace hq_22 := bf hq_22; exfalso; omega
     · replace hq_21 := bf hq_21; exfalso; omega
    · replace hq_20 := bf hq_20; exfalso; omega
   · replace hq_19 := bnf hq_19; exfalso; omega
  · replace hq_16 := bf hq_16; exfalso; omega
set_option maxRecDepth 100000 in
set_option maxHeartbeats 4000000 in
theorem linePlaces_in (l : Lin) (hf : fewL l = true) (hg : (linM l).2 = 0) (p : Int) (hm : plaE l p = 0) : FnOk Try.prog 4 [lnA l, mA p] (fun q => q = tbA true) := by
  refine fnOk_of (fn := Try.f4) 122 (by kernel_rfl) rfl (by kernel_rfl) (Nat.le_of_ble_eq_true rfl) ?_
  intro e_0 m_0 hA hm_0
  have s0_0 : evA e_0 (.tmp 0) = _ := hA 0 _ rfl
  have s1_0 : evA e_0 (.tmp 1) = _ := hA 1 _ rfl
  have ml_0 : m_0.length = 0 := by rw [hm_0]; rfl
  clear hA hm_0
  have hl := fewL_sho hf; have hr := rgt_of hg; have hp := plaE_z.1 hm
  refine aw_seq ?_
  refine aw_text (by kernel_rfl) ?_
  refine al_stm (st_box s0_0 rfl ml_0) trivial rfl (fun m_1 hm_1 => ?_)
  have mo0_1 := m_push hm_1 ml_0
  have ml_1 := m_push_l hm_1 ml_0
  have ml_1 : _ = 1 := ml_1
  clear hm_1
  refine al_ro' (ro_assign ev_c) trivial rfl ?_
  refine al_end (fun e_2 he_2 => ?_)
  have s1_2 := ef 1 he_2 (u2 rfl s1_0)
  have s2_2 := ef 2 he_2 (up_m rfl up_h)
  clear he_2 s0_0 s1_0
  refine then_n ?_
  refine aw_seq ?_
  refine aw_seq ?_
  refine aw_text (by kernel_rfl) ?_
  refine al_ro' (ro_call evL_nil rfl (awake_ok) y29_hcf6) trivial rfl ?_
  refine al_ro' (ro_not up_h) trivial rfl ?_
  refine al_end (fun e_3 he_3 => ?_)
  have s1_3 := ef 1 he_3 (u2 rfl s1_2)
  have s2_3 := ef 2 he_3 (u2 rfl s2_2)
  have s16_3 := ef 16 he_3 up_h
  clear he_3 s1_2 s2_2
  refine then_n ?_
  refine aw_case s16_3 (fun hq_4 => ?_) (fun hq_4 => ?_)
  · cases hq_4
  replace hq_4 := bf' hq_4
  refine aw_skip ?_
  refine then_n ?_
  refine aw_seq ?_
  refine aw_seq ?_
  refine aw_text (by kernel_rfl) ?_
  refine al_ro' (ro_eq (ro_ld_ptr y29_ty26 rfl mo0_1 s2_3 (by exact Nat.le_of_ble_eq_true rfl)) (by simp only [packA_t, packA_f, iE, bE, setAt, cellsA, Value.cells, map_vc, map_vn, Nat.reduceAdd, qS] <;> rfl)) trivial rfl ?_
  refine al_ro' (ro_call (evL_cons up_h evL_nil) rfl ((fewL_ok l).mono (fun q h => h.trans (by rw [hf]))) y29_hcf7) trivial rfl ?_
  refine al_ro' (ro_not up_h) trivial rfl ?_
  refine al_end (fun e_5 he_5 => ?_)
  have s1_5 := ef 1 he_5 (up_m rfl (u2 rfl s1_3))
  have s2_5 := ef 2 he_5 (up_m rfl (u2 rfl s2_3))
  have s19_5 := ef 19 he_5 up_h
  clear he_5 s16_3 s1_3 s2_3
  refine then_n ?_
  refine aw_case s19_5 (fun hq_6 => ?_) (fun hq_6 => ?_)
  · cases hq_6
  replace hq_6 := bf' hq_6
  refine aw_skip ?_
  refine then_n ?_
  refine aw_seq ?_
  refine aw_text (by kernel_rfl) ?_
  refine al_ro' (ro_eq (ro_ld_ptr y29_ty26 rfl mo0_1 s2_5 (by exact Nat.le_of_ble_eq_true rfl)) (by simp only [packA_t, packA_f, iE, bE, setAt, cellsA, Value.cells, map_vc, map_vn, Nat.reduceAdd, qS] <;> rfl)) trivial rfl ?_
  refine al_ro' (ro_call (evL_cons up_h evL_nil) rfl (yCopy_ok l hl) y29_hcf9) trivial rfl ?_
  refine al_ro' (ro_move (u2 rfl s1_5)) trivial rfl ?_
  refine al_ro' (ro_call (evL_cons (up_m rfl up_h) (evL_cons up_h evL_nil)) rfl (beamAt_in l hl hg p hm) y29_hcf16) trivial rfl ?_
  refine al_ro' (ro_move up_h) trivial rfl ?_
  refine al_ro' (ro_extract up_h rfl) trivial rfl ?_
  refine al_ro' (ro_extract (up_m rfl up_h) rfl) trivial rfl ?_
  refine al_ro' (ro_extract (u2 rfl up_h) rfl) trivial rfl ?_
  refine al_ro' (ro_assign (u2 rfl up_h)) trivial rfl ?_
  refine al_ro' (ro_assign (u2 rfl up_h)) trivial rfl ?_
  refine al_ro' (ro_assign (u2 rfl up_h)) trivial rfl ?_
  refine al_end (fun e_7 he_7 => ?_)
  have s1_7 := ef 1 he_7 (up_m rfl (u2 rfl (u8 rfl s1_5)))
  have s2_7 := ef 2 he_7 (up_m rfl (u2 rfl (u8 rfl s2_5)))
  have s5_7 := ef 5 he_7 (u2 rfl up_h)
  have s6_7 := ef 6 he_7 (up_m rfl up_h)
  have s7_7 := ef 7 he_7 up_h
  clear he_7 s19_5 s1_5 s2_5
  refine then_n ?_
  refine aw_seq ?_
  refine aw_text (by kernel_rfl) ?_
  refine al_ro' (ro_eq (ro_ld_ptr y29_ty26 rfl mo0_1 s2_7 (by exact Nat.le_of_ble_eq_true rfl)) (by simp only [packA_t, packA_f, iE, bE, setAt, cellsA, Value.cells, map_vc, map_vn, Nat.reduceAdd, qS] <;> rfl)) trivial rfl ?_
  refine al_ro' (ro_call (evL_cons up_h evL_nil) rfl (yCopy_ok l hl) y29_hcf9) trivial rfl ?_
  refine al_ro' (ro_move (u2 rfl s1_7)) trivial rfl ?_
  refine al_ro' (ro_call (evL_cons (up_m rfl up_h) (evL_cons up_h evL_nil)) rfl (AcrossAt_in l hl hg p hm) y29_hcf17) trivial rfl ?_
  refine al_ro' (ro_move up_h) trivial rfl ?_
  refine al_ro' (ro_extract up_h rfl) trivial rfl ?_
  refine al_ro' (ro_extract (up_m rfl up_h) rfl) trivial rfl ?_
  refine al_stm (st_alloc y29_az46 rfl ml_1) trivial rfl (fun m_8 hm_8 => ?_)
  have mo1_8 := m_push hm_8 ml_1
  simp only [packA_t, packA_f, iE, bE, setAt, cellsA, Value.cells, map_vc, map_vn, Nat.reduceAdd, qS] at mo1_8
  have mo0_8 := m_push_o hm_8 mo0_1
  have ml_8 := m_push_l hm_8 ml_1
  have ml_8 : _ = 2 := ml_8
  clear hm_8 mo0_1
  refine al_stm (st_store up_h (u2 rfl up_h) rfl rfl mo1_8 y29_sz46 rfl (by exact Nat.le_of_ble_eq_true rfl)) trivial rfl (fun m_9 hm_9 => ?_)
  have mo1_9 := m_set hm_9 mo1_8
  simp only [packA_t, packA_f, iE, bE, setAt, cellsA, Value.cells, map_vc, map_vn, Nat.reduceAdd, qS] at mo1_9
  have mo0_9 := m_set_o hm_9 mo0_8 (by decide)
  have ml_9 := m_set_l hm_9 ml_8
  clear hm_9 mo1_8 mo0_8
  refine al_ro' (ro_assign (up_n (up_m rfl up_h))) trivial rfl ?_
  refine al_end (fun e_10 he_10 => ?_)
  have s1_10 := ef 1 he_10 (up_m rfl (up_n (u8 rfl s1_7)))
  have s2_10 := ef 2 he_10 (up_m rfl (up_n (u8 rfl s2_7)))
  have s5_10 := ef 5 he_10 (up_m rfl (up_n (u8 rfl s5_7)))
  have s6_10 := ef 6 he_10 (up_m rfl (up_n (u8 rfl s6_7)))
  have s7_10 := ef 7 he_10 (up_m rfl (up_n (u8 rfl s7_7)))
  have s8_10 := ef 8 he_10 (up_m rfl (up_n up_h))
  have s9_10 := ef 9 he_10 up_h
  clear he_10 s1_7 s2_7 s5_7 s6_7 s7_7
  refine then_n ?_
  refine aw_seq ?_
  refine aw_text (by kernel_rfl) ?_
  refine al_ro' (ro_eq (ro_ld_ptr y29_ty26 rfl mo0_9 s2_10 (by exact Nat.le_of_ble_eq_true rfl)) (by simp only [packA_t, packA_f, iE, bE, setAt, cellsA, Value.cells, map_vc, map_vn, Nat.reduceAdd, qS] <;> rfl)) trivial rfl ?_
  refine al_ro' (ro_call (evL_cons up_h evL_nil) rfl (yCopy_ok l hl) y29_hcf9) trivial rfl ?_
  refine al_ro' (ro_move (u2 rfl s1_10)) trivial rfl ?_
  refine al_ro' (ro_call (evL_cons (up_m rfl up_h) (evL_cons up_h evL_nil)) rfl (UpAt_in l hl hg p hm) y29_hcf18) trivial rfl ?_
  refine al_ro' (ro_move up_h) trivial rfl ?_
  refine al_ro' (ro_extract up_h rfl) trivial rfl ?_
  refine al_ro' (ro_extract (up_m rfl up_h) rfl) trivial rfl ?_
  refine al_stm (st_alloc y29_az46 rfl ml_9) trivial rfl (fun m_11 hm_11 => ?_)
  have mo2_11 := m_push hm_11 ml_9
  simp only [packA_t, packA_f, iE, bE, setAt, cellsA, Value.cells, map_vc, map_vn, Nat.reduceAdd, qS] at mo2_11
  have mo1_11 := m_push_o hm_11 mo1_9
  have mo0_11 := m_push_o hm_11 mo0_9
  have ml_11 := m_push_l hm_11 ml_9
  have ml_11 : _ = 3 := ml_11
  clear hm_11 mo1_9 mo0_9
  refine al_stm (st_store up_h (u2 rfl up_h) rfl rfl mo2_11 y29_sz46 rfl (by exact Nat.le_of_ble_eq_true rfl)) trivial rfl (fun m_12 hm_12 => ?_)
  have mo2_12 := m_set hm_12 mo2_11
  simp only [packA_t, packA_f, iE, bE, setAt, cellsA, Value.cells, map_vc, map_vn, Nat.reduceAdd, qS] at mo2_12
  have mo1_12 := m_set_o hm_12 mo1_11 (by decide)
  have mo0_12 := m_set_o hm_12 mo0_11 (by decide)
  have ml_12 := m_set_l hm_12 ml_11
  clear hm_12 mo2_11 mo1_11 mo0_11
  refine al_ro' (ro_assign (up_n (up_m rfl up_h))) trivial rfl ?_
  refine al_end (fun e_13 he_13 => ?_)
  have s1_13 := ef 1 he_13 (up_m rfl (up_n (u8 rfl s1_10)))
  have s2_13 := ef 2 he_13 (up_m rfl (up_n (u8 rfl s2_10)))
  have s5_13 := ef 5 he_13 (up_m rfl (up_n (u8 rfl s5_10)))
  have s6_13 := ef 6 he_13 (up_m rfl (up_n (u8 rfl s6_10)))
  have s7_13 := ef 7 he_13 (up_m rfl (up_n (u8 rfl s7_10)))
  have s8_13 := ef 8 he_13 (up_m rfl (up_n (u8 rfl s8_10)))
  have s9_13 := ef 9 he_13 (up_m rfl (up_n (u8 rfl s9_10)))
  have s10_13 := ef 10 he_13 (up_m rfl (up_n up_h))
  have s11_13 := ef 11 he_13 up_h
  clear he_13 s1_10 s2_10 s5_10 s6_10 s7_10 s8_10 s9_10
  refine then_n ?_
  refine aw_seq ?_
  refine aw_text (by kernel_rfl) ?_
  refine al_ro' (ro_eq (ro_ld_ptr y29_ty26 rfl mo0_12 s2_13 (by exact Nat.le_of_ble_eq_true rfl)) (by simp only [packA_t, packA_f, iE, bE, setAt, cellsA, Value.cells, map_vc, map_vn, Nat.reduceAdd, qS] <;> rfl)) trivial rfl ?_
  refine al_ro' (ro_call (evL_cons up_h evL_nil) rfl (lineErr_ok l hl) y29_hcf19) trivial rfl ?_
  refine al_ro' (ro_assign up_h) trivial rfl ?_
  refine al_end (fun e_14 he_14 => ?_)
  have s1_14 := ef 1 he_14 (up_m rfl (u2 rfl s1_13))
  have s2_14 := ef 2 he_14 (up_m rfl (u2 rfl s2_13))
  have s5_14 := ef 5 he_14 (up_m rfl (u2 rfl s5_13))
  have s6_14 := ef 6 he_14 (up_m rfl (u2 rfl s6_13))
  have s7_14 := ef 7 he_14 (up_m rfl (u2 rfl s7_13))
  have s8_14 := ef 8 he_14 (up_m rfl (u2 rfl s8_13))
  have s9_14 := ef 9 he_14 (up_m rfl (u2 rfl s9_13))
  have s10_14 := ef 10 he_14 (up_m rfl (u2 rfl s10_13))
  have s11_14 := ef 11 he_14 (up_m rfl (u2 rfl s11_13))
  have s12_14 := ef 12 he_14 up_h
  clear he_14 s10_13 s11_13 s1_13 s2_13 s5_13 s6_13 s7_13 s8_13 s9_13
  refine then_n ?_
  refine aw_seq ?_
  refine aw_seq ?_
  refine aw_text (by kernel_rfl) ?_
  refine al_ro' (ro_move s12_14) trivial rfl ?_
  refine al_ro' (ro_eql up_h ev_c) trivial rfl ?_
  refine al_end (fun e_15 he_15 => ?_)
  have s1_15 := ef 1 he_15 (u2 rfl s1_14)
  have s2_15 := ef 2 he_15 (u2 rfl s2_14)
  have s5_15 := ef 5 he_15 (u2 rfl s5_14)
  have s6_15 := ef 6 he_15 (u2 rfl s6_14)
  have s7_15 := ef 7 he_15 (u2 rfl s7_14)
  have s8_15 := ef 8 he_15 (u2 rfl s8_14)
  have s9_15 := ef 9 he_15 (u2 rfl s9_14)
  have s10_15 := ef 10 he_15 (u2 rfl s10_14)
  have s11_15 := ef 11 he_15 (u2 rfl s11_14)
  have s12_15 := ef 12 he_15 (u2 rfl s12_14)
  have s45_15 := ef 45 he_15 up_h
  clear he_15 s10_14 s11_14 s12_14 s1_14 s2_14 s5_14 s6_14 s7_14 s8_14 s9_14
  refine then_n ?_
  refine aw_case s45_15 (fun hq_16 => ?_) (fun hq_16 => ?_)
  ·replace hq_16 := bt hq_16
   refine aw_text (by kernel_rfl) ?_
   refine al_ro' (ro_eq (ro_ld_ptr y29_ty26 rfl mo0_12 s2_15 (by exact Nat.le_of_ble_eq_true rfl)) (by simp only [packA_t, packA_f, iE, bE, setAt, cellsA, Value.cells, map_vc, map_vn, Nat.reduceAdd, qS] <;> rfl)) trivial rfl ?_
   refine al_ro' (ro_move (up_m rfl s1_15)) trivial rfl ?_
   refine al_ro' (ro_call (evL_cons (up_m rfl up_h) (evL_cons up_h evL_nil)) rfl (rPlaceErr_ok l hr p) y29_hcf20) trivial rfl ?_
   refine al_ro' (ro_assign up_h) trivial rfl ?_
   refine al_end (fun e_17 he_17 => ?_)
   have s1_17 := ef 1 he_17 (u4 rfl s1_15)
   have s2_17 := ef 2 he_17 (u4 rfl s2_15)
   have s5_17 := ef 5 he_17 (u4 rfl s5_15)
   have s6_17 := ef 6 he_17 (u4 rfl s6_15)
   have s7_17 := ef 7 he_17 (u4 rfl s7_15)
   have s8_17 := ef 8 he_17 (u4 rfl s8_15)
   have s9_17 := ef 9 he_17 (u4 rfl s9_15)
   have s10_17 := ef 10 he_17 (u4 rfl s10_15)
   have s11_17 := ef 11 he_17 (u4 rfl s11_15)
   have s12_17 := ef 12 he_17 up_h
   clear he_17 s10_15 s11_15 s12_15 s1_15 s2_15 s45_15 s5_15 s6_15 s7_15 s8_15 s9_15
   refine then_n ?_
   refine aw_seq ?_
   refine aw_seq ?_
   refine aw_text (by kernel_rfl) ?_
   refine al_ro' (ro_move s12_17) trivial rfl ?_
   refine al_ro' (ro_neq up_h ev_c) trivial rfl ?_
   refine al_end (fun e_18 he_18 => ?_)
   have s1_18 := ef 1 he_18 (u2 rfl s1_17)
   have s2_18 := ef 2 he_18 (u2 rfl s2_17)
   have s5_18 := ef 5 he_18 (u2 rfl s5_17)
   have s6_18 := ef 6 he_18 (u2 rfl s6_17)
   have s7_18 := ef 7 he_18 (u2 rfl s7_17)
   have s8_18 := ef 8 he_18 (u2 rfl s8_17)
   have s9_18 := ef 9 he_18 (u2 rfl s9_17)
   have s10_18 := ef 10 he_18 (u2 rfl s10_17)
   have s11_18 := ef 11 he_18 (u2 rfl s11_17)
   have s12_18 := ef 12 he_18 (u2 rfl s12_17)
   have s50_18 := ef 50 he_18 up_h
   clear he_18 s10_17 s11_17 s12_17 s1_17 s2_17 s5_17 s6_17 s7_17 s8_17 s9_17
   refine then_n ?_
   refine aw_case s50_18 (fun hq_19 => ?_) (fun hq_19 => ?_)
   · replace hq_19 := bnt hq_19; exfalso; omega
   replace hq_19 := bnf hq_19
   refine aw_skip ?_
   refine then_n ?_
   refine aw_seq ?_
   refine aw_text (by kernel_rfl) ?_
   refine al_ro' (ro_eq (ro_ld_ptr y29_ty26 rfl mo0_12 s2_18 (by exact Nat.le_of_ble_eq_true rfl)) (by simp only [packA_t, packA_f, iE, bE, setAt, cellsA, Value.cells, map_vc, map_vn, Nat.reduceAdd, qS] <;> rfl)) trivial rfl ?_
   refine al_ro' (ro_move (up_m rfl s1_18)) trivial rfl ?_
   refine al_ro' (ro_call (evL_cons (up_m rfl up_h) (evL_cons up_h evL_nil)) rfl (rBeamAt_ok l hr p hp) y29_hcf21) trivial rfl ?_
   refine al_ro' (ro_move up_h) trivial rfl ?_
   refine al_ro' (ro_extract up_h rfl) trivial rfl ?_
   refine al_ro' (ro_extract (up_m rfl up_h) rfl) trivial rfl ?_
   refine al_ro' (ro_assign (up_m rfl up_h)) trivial rfl ?_
   refine al_ro' (ro_assign (up_m rfl up_h)) trivial rfl ?_
   refine al_end (fun e_20 he_20 => ?_)
   have s1_20 := ef 1 he_20 (u8 rfl s1_18)
   have s2_20 := ef 2 he_20 (u8 rfl s2_18)
   have s5_20 := ef 5 he_20 (u8 rfl s5_18)
   have s6_20 := ef 6 he_20 (u8 rfl s6_18)
   have s7_20 := ef 7 he_20 (u8 rfl s7_18)
   have s8_20 := ef 8 he_20 (u8 rfl s8_18)
   have s9_20 := ef 9 he_20 (u8 rfl s9_18)
   have s10_20 := ef 10 he_20 (u8 rfl s10_18)
   have s11_20 := ef 11 he_20 (u8 rfl s11_18)
   have s13_20 := ef 13 he_20 (up_m rfl up_h)
   have s14_20 := ef 14 he_20 up_h
   clear he_20 s10_18 s11_18 s12_18 s1_18 s2_18 s50_18 s5_18 s6_18 s7_18 s8_18 s9_18
   refine then_n ?_
   refine aw_seq ?_
   refine aw_draw 35 (by kernel_rfl) (by kernel_rfl) (by kernel_rfl) (by kernel_rfl) ?_
   refine ds_ro' (ro_move s7_20) trivial rfl ?_
   refine ds_ro' (ro_eql up_h ev_c) trivial rfl ?_
   refine ds_ro' (ro_move up_h) trivial rfl ?_
   refine ds_case up_h (fun hb_21 hq_21 => ?_) (fun hb_21 hq_21 => ?_)
   ·replace hq_21 := bt hq_21
    refine ds_ro' (ro_move (up_m rfl (u2 rfl s5_20))) ⟨_, rfl, hb_21⟩ rfl ?_
    refine ds_ro' (ro_move (u4 rfl s13_20)) ⟨_, rfl, (up_m rfl hb_21)⟩ rfl ?_
    refine ds_ro' (ro_eql (up_m rfl up_h) up_h) ⟨_, rfl, (u2 rfl hb_21)⟩ rfl ?_
    refine ds_ro' (ro_pickT (up_m rfl (u2 rfl hb_21)) up_h) trivial rfl ?_
    refine ds_ro' (ro_move up_h) trivial rfl ?_
    refine ds_case up_h (fun hb_22 hq_22 => ?_) (fun hb_22 hq_22 => ?_)
    ·replace hq_22 := bt hq_22
     refine ds_ro' (ro_move (u8 rfl s6_20)) ⟨_, rfl, hb_22⟩ rfl ?_
     refine ds_ro' (ro_move (up_m rfl (u8 rfl s14_20))) ⟨_, rfl, (up_m rfl hb_22)⟩ rfl ?_
     refine ds_ro' (ro_eql (up_m rfl up_h) up_h) ⟨_, rfl, (u2 rfl hb_22)⟩ rfl ?_
     refine ds_ro' (ro_pickT (up_m rfl (u2 rfl hb_22)) up_h) trivial rfl ?_
     refine ds_ro' (ro_move up_h) trivial rfl ?_
     refine ds_case up_h (fun hb_23 hq_23 => ?_) (fun hb_23 hq_23 => ?_)
     ·replace hq_23 := bt hq_23
      refine ds_ro' (ro_move (up_m rfl (u4 rfl (u8 rfl s9_20)))) ⟨_, rfl, hb_23⟩ rfl ?_
      refine ds_ro' (ro_eql up_h ev_c) ⟨_, rfl, (up_m rfl hb_23)⟩ rfl ?_
      refine ds_ro' (ro_pickT (u2 rfl hb_23) up_h) trivial rfl ?_
      refine ds_ro' (ro_move up_h) trivial rfl ?_
      refine ds_case up_h (fun hb_24 hq_24 => ?_) (fun hb_24 hq_24 => ?_)
      ·replace hq_24 := bt hq_24
       refine ds_ro' (ro_eq (ro_ld_ptr y29_ty46 rfl mo1_12 (up_m rfl (u16 rfl s8_20)) (by exact Nat.le_of_ble_eq_true rfl)) (by simp only [packA_t, packA_f, iE, bE, setAt, cellsA, Value.cells, map_vc, map_vn, Nat.reduceAdd, qS] <;> rfl)) ⟨_, rfl, hb_24⟩ rfl ?_
       refine ds_ro' (ro_eq (ro_ld_ptr y29_ty26 rfl mo0_12 (u2 rfl (u16 rfl s2_20)) (by exact Nat.le_of_ble_eq_true rfl)) (by simp only [packA_t, packA_f, iE, bE, setAt, cellsA, Value.cells, map_vc, map_vn, Nat.reduceAdd, qS] <;> rfl)) ⟨_, rfl, (up_m rfl hb_24)⟩ rfl ?_
       refine ds_ro' (ro_move (up_m rfl (u2 rfl (u16 rfl s1_20)))) ⟨_, rfl, (u2 rfl hb_24)⟩ rfl ?_
       refine ds_ro' (ro_call (evL_cons (up_m rfl up_h) (evL_cons up_h evL_nil)) rfl (rAcrossAt_ok l hr p hp) y29_hcf22) ⟨_, rfl, (up_m rfl (u2 rfl hb_24))⟩ rfl ?_
       refine ds_ro' (ro_sqeql (up_m rfl (u2 rfl up_h)) up_h rfl rfl y29_gq46 y29_sq46 (by decide)) ⟨_, rfl, (u4 rfl hb_24)⟩ rfl ?_
       refine ds_ro' (ro_pickT (up_m rfl (u4 rfl hb_24)) up_h) trivial rfl ?_
       refine ds_ro' (ro_move up_h) trivial rfl ?_
       refine ds_case up_h (fun hb_25 hq_25 => ?_) (fun hb_25 hq_25 => ?_)
       ·skip
        refine ds_ro' (ro_move (u8 rfl (u16 rfl s11_20))) ⟨_, rfl, hb_25⟩ rfl ?_
        refine ds_ro' (ro_eql up_h ev_c) ⟨_, rfl, (up_m rfl hb_25)⟩ rfl ?_
        refine ds_ro' (ro_pickT (u2 rfl hb_25) up_h) trivial rfl ?_
        refine ds_ro' (ro_move up_h) trivial rfl ?_
        refine ds_case up_h (fun hb_26 hq_26 => ?_) (fun hb_26 hq_26 => ?_)
        ·replace hq_26 := bt hq_26
         refine ds_ro' (ro_eq (ro_ld_ptr y29_ty46 rfl mo2_12 (u4 rfl (u8 rfl (u16 rfl s10_20))) (by exact Nat.le_of_ble_eq_true rfl)) (by simp only [packA_t, packA_f, iE, bE, setAt, cellsA, Value.cells, map_vc, map_vn, Nat.reduceAdd, qS] <;> rfl)) ⟨_, rfl, hb_26⟩ rfl ?_
         refine ds_ro' (ro_eq (ro_ld_ptr y29_ty26 rfl mo0_12 (up_m rfl (u4 rfl (u8 rfl (u16 rfl s2_20)))) (by exact Nat.le_of_ble_eq_true rfl)) (by simp only [packA_t, packA_f, iE, bE, setAt, cellsA, Value.cells, map_vc, map_vn, Nat.reduceAdd, qS] <;> rfl)) ⟨_, rfl, (up_m rfl hb_26)⟩ rfl ?_
         refine ds_ro' (ro_move (u2 rfl (u4 rfl (u8 rfl (u16 rfl s1_20))))) ⟨_, rfl, (u2 rfl hb_26)⟩ rfl ?_
         refine ds_ro' (ro_call (evL_cons (up_m rfl up_h) (evL_cons up_h evL_nil)) rfl (rUpAt_ok l hr p hp) y29_hcf23) ⟨_, rfl, (up_m rfl (u2 rfl hb_26))⟩ rfl ?_
         refine ds_ro' (ro_sqeql (up_m rfl (u2 rfl up_h)) up_h rfl rfl y29_gq46 y29_sq46 (by decide)) ⟨_, rfl, (u4 rfl hb_26)⟩ rfl ?_
         refine ds_ro' (ro_pickT (up_m rfl (u4 rfl hb_26)) up_h) trivial rfl ?_
         refine ds_ro' (ro_assign up_h) trivial rfl ?_
         refine ds_nil ?_
         refine al_end (fun e_27 he_27 => ?_)
         have s4_27 := ef 4 he_27 up_h
         clear he_27 hb_21 hb_22 hb_23 hb_24 hb_25 hb_26 s10_20 s11_20 s13_20 s14_20 s1_20 s2_20 s5_20 s6_20 s7_20 s8_20 s9_20
         refine then_n ?_
         refine aw_ret ?_
         refine ret1 (.inr rfl) (by kernel_rfl) (resV_tmp s4_27) (.ro _ rfl) ?_
         clear s4_27 mo2_12 mo1_12 mo0_12 ml_12
         simp_all
        · cases hq_26
       refine ds_skip' ⟨_, rfl, .inl hb_25⟩ rfl ?_
       refine ds_skip' ⟨_, rfl, .inl (up_m rfl hb_25)⟩ rfl ?_
       refine ds_ro' (ro_pickF (u2 rfl hb_25) ev_c) trivial rfl ?_
       refine ds_ro' (ro_move up_h) trivial rfl ?_
       refine ds_skip' ⟨_, rfl, .inl up_h⟩ rfl ?_
       refine ds_skip' ⟨_, rfl, .inl (up_m rfl up_h)⟩ rfl ?_
       refine ds_skip' ⟨_, rfl, .inl (u2 rfl up_h)⟩ rfl ?_
       refine ds_skip' ⟨_, rfl, .inl (up_m rfl (u2 rfl up_h))⟩ rfl ?_
       refine ds_skip' ⟨_, rfl, .inl (u4 rfl up_h)⟩ rfl ?_
       refine ds_ro' (ro_pickF (up_m rfl (u4 rfl up_h)) ev_c) trivial rfl ?_
       refine ds_ro' (ro_assign up_h) trivial rfl ?_
       refine ds_nil ?_
       refine al_end (fun e_28 he_28 => ?_)
       have s4_28 := ef 4 he_28 up_h
       clear he_28 hb_21 hb_22 hb_23 hb_24 hb_25 s10_20 s11_20 s13_20 s14_20 s1_20 s2_20 s5_20 s6_20 s7_20 s8_20 s9_20
       refine then_n ?_
       refine aw_ret ?_
       refine ret1 (.inr rfl) (by kernel_rfl) (resV_tmp s4_28) (.ro _ rfl) ?_
       clear s4_28 mo2_12 mo1_12 mo0_12 ml_12
       simp_all
      · replace hq_24 := bf hq_24; exfalso; omega
     · skip
       first
       | (cases hq_23; done) | ((first | replace hq_23 := bnt hq_23 | replace hq_23 := bnf hq_23 | replace hq_23 := bt hq_23 | replace hq_23 := bf hq_23 | replace hq_23 := bt' hq_23 | replace hq_23 := bf' hq_23 | skip); exfalso; omega) | (first | (simp at hq_23; done) | (exact absurd hm (by simpa using hq_23)))
    · skip
      first
      | (cases hq_22; done) | ((first | replace hq_22 := bnt hq_22 | replace hq_22 := bnf hq_22 | replace hq_22 := bt hq_22 | replace hq_22 := bf hq_22 | replace hq_22 := bt' hq_22 | replace hq_22 := bf' hq_22 | skip); exfalso; omega) | (first | (simp at hq_22; done) | (exact absurd hm (by simpa using hq_22)))
   · skip
     first
     | (cases hq_21; done) | ((first | replace hq_21 := bnt hq_21 | replace hq_21 := bnf hq_21 | replace hq_21 := bt hq_21 | replace hq_21 := bf hq_21 | replace hq_21 := bt' hq_21 | replace hq_21 := bf' hq_21 | skip); exfalso; omega) | (first | (simp at hq_21; done) | (exact absurd hm (by simpa using hq_21)))
  · skip
    first
    | (cases hq_16; done) | ((first | replace hq_16 := bnt hq_16 | replace hq_16 := bnf hq_16 | replace hq_16 := bt hq_16 | replace hq_16 := bf hq_16 | replace hq_16 := bt' hq_16 | replace hq_16 := bf' hq_16 | skip); exfalso; omega) | (first | (simp at hq_16; done) | (exact absurd hm (by simpa using hq_16)))
theorem linePlaces_ok (l : Lin) (p : Int) : FnOk Try.prog 4 [lnA l, mA p] (fun q => q = tbA true) := by
  cases hf : fewL l with
  | false => exact linePlaces_many l hf p
  | true =>
    by_cases hg : (linM l).2 = 0
    · by_cases hm : plaE l p = 0
      · exact linePlaces_in l hf hg p hm
      · exact linePlaces_out l hf hg p hm
    · exact linePlaces_bad l hf hg p
end Go.Proofs.Ytlebjleebclmgaa

