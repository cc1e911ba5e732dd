/- Texts of this claim, one behind the other: lemmas for the statement. -/
import Derived.Test.YtjhcfpdgldpicaaT0
import Derived.Test.YtjhcfpdgldpicaaM7
import Derived.Test.YtjhcfpdgldpicaaA25
import Derived.Test.YtjhcfpdgldpicaaM2
set_option linter.unusedSimpArgs false
set_option linter.unusedVariables false
namespace Go.Proofs.Ytjhcfpdgldpicaa
open Go Go.RowKit Go.Proofs
theorem y26_az29 : (Try.prog.info? 29).bind (·.zero) = some (.int .i64 0) := by kernel_rfl
theorem y26_az61 : (Try.prog.info? 61).bind (·.zero) = some (.pointer none) := by kernel_rfl
theorem y26_ar60 : ArIs Try.prog 60 2 1 := ⟨by kernel_rfl, by kernel_rfl⟩
theorem y26_hcf46 : ∀ args w, (callFunc 46 args).run Try.prog w = .ok (.enter 46 args) w := fun _ _ => by kernel_rfl
theorem y26_hcf47 : ∀ args w, (callFunc 47 args).run Try.prog w = .ok (.enter 47 args) w := fun _ _ => by kernel_rfl
theorem y26_hcf48 : ∀ args w, (callFunc 48 args).run Try.prog w = .ok (.enter 48 args) w := fun _ _ => by kernel_rfl
theorem y26_hcf66 : ∀ args w, (callFunc 66 args).run Try.prog w = .ok (.enter 66 args) w := fun _ _ => by kernel_rfl
theorem y26_sl40 : SlIs Try.prog 40 3 1 8 (.int .i64 0) := ⟨by kernel_rfl, by kernel_rfl, by kernel_rfl⟩
theorem y26_sz29 : (Try.prog.info? 29).map (·.size) = some 1 := by kernel_rfl
theorem y26_sz61 : (Try.prog.info? 61).map (·.size) = some 1 := by kernel_rfl
theorem y26_ty26 : TyIs Try.prog 26 true 4 := ⟨by kernel_rfl, by kernel_rfl⟩
theorem y26_ty29 : TyIs Try.prog 29 false 1 := ⟨by kernel_rfl, by kernel_rfl⟩
theorem y26_ty3 : TyIs Try.prog 3 false 1 := ⟨by kernel_rfl, by kernel_rfl⟩
theorem y26_ty40 : TyIs Try.prog 40 false 1 := ⟨by kernel_rfl, by kernel_rfl⟩
theorem y26_ty55 : TyIs Try.prog 55 true 2 := ⟨by kernel_rfl, by kernel_rfl⟩
theorem y26_ty59 : TyIs Try.prog 59 true 3 := ⟨by kernel_rfl, by kernel_rfl⟩
theorem y26_ty61 : TyIs Try.prog 61 false 1 := ⟨by kernel_rfl, by kernel_rfl⟩
theorem filt_at {p : Nat → Bool} {i : Nat} (hp : p i = true) : ∀ {n : Nat}, i < n → ((List.range n).filter p)[((List.range i).filter p).length]? = some i
 | n + 1, hi => by
  rw [List.range_succ, List.filter_append]
  by_cases h : i = n
  ·subst h
   rw [List.getElem?_append_right (Nat.le_refl _)]
   simp [hp]
  ·have ih := filt_at hp (n := n) (by omega)
   rw [List.getElem?_append_left (List.getElem?_eq_some_iff.1 ih).1]; exact ih
theorem filt_succ {p : Nat → Bool} {i : Nat} : ((List.range (i + 1)).filter p).length = ((List.range i).filter p).length + if p i then 1 else 0 := by
 rw [List.range_succ, List.filter_append, List.length_append]
 cases h : p i <;> simp [h]
def benB (l : Lin) (L p : Int) (i : Nat) : Bool := decide (p < plaP l.bs i) && decide (plaP l.bs i < p + L)
def benL (l : Lin) (L p : Int) : List Nat := (List.range l.js.length).filter (benB l L p)
def benY (l : Lin) (L p : Int) : List (List AV) := (benL l L p).map fun (i : Nat) => [mA (i : Int)]
theorem benY_len (l : Lin) (L p : Int) : (benY l L p).length = (benL l L p).length := by simp [benY]
theorem benY_one {l : Lin} {L p : Int} : ∀ y ∈ benY l L p, y.length = 1 := by
 intro y hy
 obtain ⟨_, _, rfl⟩ := List.mem_map.1 hy; rfl
theorem benY_at {l : Lin} {L p j : Int} {i : Nat} (h0 : 0 ≤ j) (hj : j < l.js.length) (h1 : p < plaP l.bs j.toNat) (h2 : plaP l.bs j.toNat < p + L) (hi : i = ((List.range j.toNat).filter (benB l L p)).length) : (benY l L p)[i]? = some [.v (.int .i64 j)] := by
 subst hi
 unfold benY benL
 rw [List.getElem?_map, filt_at (by unfold benB; simp [h1, h2]) (by omega)]
 simp; omega
theorem benY_yes {l : Lin} {L p j : Int} (h0 : 0 ≤ j) (h1 : p < plaP l.bs j.toNat) (h2 : plaP l.bs j.toNat < p + L) : ((List.range (j + 1).toNat).filter (benB l L p)).length = ((List.range j.toNat).filter (benB l L p)).length + 1 := by
 rw [show (j + 1).toNat = j.toNat + 1 by omega, filt_succ, if_pos]
 unfold benB; simp [h1, h2]
theorem benY_no {l : Lin} {L p j : Int} (h0 : 0 ≤ j) (h : ¬ (p < plaP l.bs j.toNat ∧ plaP l.bs j.toNat < p + L)) : ((List.range (j + 1).toNat).filter (benB l L p)).length = ((List.range j.toNat).filter (benB l L p)).length := by
 rw [show (j + 1).toNat = j.toNat + 1 by omega, filt_succ, if_neg]; rfl
 unfold benB; simp; omega
theorem benY_of {l : Lin} {L p : Int} {i : Nat} {y : AV} (h : (benY l L p)[i]? = some [y]) : ∃ s : Nat, (benL l L p)[i]? = some s ∧ y = mA (s : Int) ∧ s < l.js.length ∧ p < plaP l.bs s ∧ plaP l.bs s < p + L := by
 unfold benY at h
 rw [List.getElem?_map] at h
 cases hs : (benL l L p)[i]? with
 | none => rw [hs] at h; cases h
 | some s =>
  rw [hs] at h
  simp only [Option.map_some, Option.some.injEq, List.cons.injEq, and_true] at h
  have hm := List.mem_of_getElem? hs
  unfold benL at hm
  rw [List.mem_filter] at hm
  obtain ⟨h1, h2⟩ := hm
  unfold benB at h2
  simp at h1 h2
  exact ⟨s, rfl, h.symm, h1, h2.1, h2.2⟩
set_option maxRecDepth 100000 in
set_option maxHeartbeats 4000000 in
theorem beneath1_gen (l : Lin) (h : Rgt l) (L c s p : Int) (hL : 1000 ≤ L ∧ L ≤ 30000) (hp : 0 ≤ p ∧ p ≤ 1200000) : GenOk Try.prog 66 [] [.ref [tkA l], .ref [mA p], .ref [mA L, mA c, mA s]] (benY l L p) := by
 refine gen_of (fn := Try.f66) 35 (by kernel_rfl) rfl (by kernel_rfl) (Nat.le_of_ble_eq_true rfl) (fun _ _ => ⟨.tuple #[], by kernel_rfl⟩) ?_
 intro lb_ e_0 hA
 have s0_0 : evA e_0 (.tmp 0) = _ := hA 0 _ rfl
 have s1_0 : evA e_0 (.tmp 1) = _ := hA 1 _ rfl
 have s2_0 : evA e_0 (.tmp 2) = _ := hA 2 _ rfl
 have s3_0 : evA e_0 (.tmp 3) = _ := hA 3 _ rfl
 clear hA
 have hn1 := h.n1; have hn0 := h.n0; have hjs := h.js; have hpl := plaL_len (bs := l.bs) (n := l.bs.length)
 refine iw_seq <| iw_text ?_
 refine il_ro (fun _ => (ro_eq (ro_ld_ref y26_ty61 rfl s1_0 (nle rfl)) (by simp only [pS, Value.cells, Nat.reduceAdd] <;> rfl))) trivial rfl ?_
 refine il_ro (fun _ => (ro_nilR up_h)) trivial rfl ?_
 refine il_ro (fun _ => (ro_eq (ro_fld_ref qfl83_1 rfl up_h) (by simp only [pS, Value.cells, Nat.reduceAdd] <;> rfl))) trivial rfl ?_
 refine il_ro (fun _ => (ro_eq (ro_ld_ref y26_ty40 rfl up_h (nle rfl)) (by simp only [pS, Value.cells, Nat.reduceAdd] <;> rfl))) trivial rfl ?_
 refine il_ro (fun _ => (ro_eq (ro_len_row up_h rfl y26_sl40.1) (by simp only [lnS] <;> rfl))) trivial rfl ?_
 refine il_ro (fun _ => (ro_move ev_c)) trivial rfl ?_
 refine il_end (fun e_1 he_1 => ?_)
 have s0_1 := ef 0 he_1 (u2 rfl (u4 rfl s0_0))
 have s2_1 := ef 2 he_1 (u2 rfl (u4 rfl s2_0))
 have s3_1 := ef 3 he_1 (u2 rfl (u4 rfl s3_0))
 have s10_1 := ef 10 he_1 (u2 rfl up_h)
 have s11_1 := ef 11 he_1 (up_m rfl up_h)
 have s12_1 := ef 12 he_1 up_h
 clear he_1 s0_0 s1_0 s2_0 s3_0
 refine theni_n <| iw_block <| iw_loop (S := Int) (fun j e b i => (evA e (.tmp 12) = .v (.int .i64 j)) ∧ (evA e (.tmp 0) = evA e_1 (.tmp 0)) ∧ (evA e (.tmp 2) = evA e_1 (.tmp 2)) ∧ (evA e (.tmp 3) = evA e_1 (.tmp 3)) ∧ (evA e (.tmp 10) = evA e_1 (.tmp 10)) ∧ (evA e (.tmp 11) = evA e_1 (.tmp 11)) ∧ (b = true) ∧ (i = ((List.range j.toNat).filter (benB l L p)).length) ∧ ((0 ≤ j ∧ j ≤ l.js.length))) (fun j => (l.js.length - j).toNat) _ ⟨s12_1, rfl, rfl, rfl, rfl, rfl, rfl, (by rfl), ?_⟩ ?_
 ·(exact ⟨by omega, by omega⟩)
 ·rintro j e_2 _ i_2 ⟨s12_2, k0_2, k2_2, k3_2, k10_2, k11_2, rfl, hix, hinv⟩
  have s0_2 := k0_2.trans s0_1
  have s2_2 := k2_2.trans s2_1
  have s3_2 := k3_2.trans s3_1
  have s10_2 := k10_2.trans s10_1
  have s11_2 := k11_2.trans s11_1
  (have p1 := hinv.1; have p2 := hinv.2)
  refine iw_seq <| iw_text ?_
  refine il_ro (fun _ => (ro_lss s12_2 s11_2)) trivial rfl ?_
  refine il_end (fun e_3 he_3 => ?_)
  have s0_3 := ef 0 he_3 (up_m rfl s0_2)
  have s2_3 := ef 2 he_3 (up_m rfl s2_2)
  have s3_3 := ef 3 he_3 (up_m rfl s3_2)
  have s10_3 := ef 10 he_3 (up_m rfl s10_2)
  have s11_3 := ef 11 he_3 (up_m rfl s11_2)
  have s12_3 := ef 12 he_3 (up_m rfl s12_2)
  have s13_3 := ef 13 he_3 up_h
  clear he_3 s0_2 s10_2 s11_2 s12_2 s2_2 s3_2
  refine theni_n <| iw_seq <| iw_case s13_3 (fun hq_4 => ?_) (fun hq_4 => ?_)
  ·replace hq_4 := bt hq_4
   (have hgj := plaL_get (bs := l.bs) (n := l.bs.length) (j := j.toNat) (by omega))
   refine iw_skip <| theni_n <| iw_seq <| iw_block <| iw_seq <| iw_text ?_
   refine il_ro (fun _ => (ro_move s12_3)) trivial rfl ?_
   refine il_ro (fun _ => (ro_eq (ro_ix y26_sl40 (up_m rfl s10_3) (up_m rfl s12_3) (by omega) (by first | (refine idx_map ?_; first | omega | (simp only [lnS]; omega)) | (refine idx_mapI ?_; first | omega | (simp only [lnS]; omega)) | (refine idx_mapN ?_; first | omega | (simp only [lnS]; omega)) | rfl)) (by simp only [pS, Value.cells, Nat.reduceAdd] <;> rfl))) trivial rfl ?_
   refine il_ro (fun _ => (ro_eq (ro_ld_ref y26_ty3 rfl up_h (nle rfl)) (by simp only [pS, Value.cells, Nat.reduceAdd] <;> rfl))) trivial rfl ?_
   refine il_ro (fun _ => (ro_assign (u2 rfl up_h))) trivial rfl ?_
   refine il_ro (fun _ => (ro_assign (up_m rfl up_h))) trivial rfl ?_
   refine il_end (fun e_5 he_5 => ?_)
   have s0_5 := ef 0 he_5 (up_m rfl (u4 rfl s0_3))
   have s2_5 := ef 2 he_5 (up_m rfl (u4 rfl s2_3))
   have s3_5 := ef 3 he_5 (up_m rfl (u4 rfl s3_3))
   have s5_5 := ef 5 he_5 (up_m rfl up_h)
   have s6_5 := ef 6 he_5 up_h
   have s10_5 := ef 10 he_5 (up_m rfl (u4 rfl s10_3))
   have s11_5 := ef 11 he_5 (up_m rfl (u4 rfl s11_3))
   have s12_5 := ef 12 he_5 (up_m rfl (u4 rfl s12_3))
   clear he_5 s0_3 s10_3 s11_3 s12_3 s13_3 s2_3 s3_3
   refine theni_n <| iw_seq <| iw_text ?_
   refine il_ro (fun _ => (ro_move s6_5)) trivial rfl ?_
   refine il_ro (fun _ => (ro_eq (ro_ld_ref y26_ty3 rfl (up_m rfl s2_5) (nle rfl)) (by simp only [pS, Value.cells, Nat.reduceAdd] <;> rfl))) trivial rfl ?_
   refine il_ro (fun _ => (ro_gtr (up_m rfl up_h) up_h)) trivial rfl ?_
   refine il_ro (fun _ => (ro_move up_h)) trivial rfl ?_
   refine il_case up_h (fun hb_6 hq_6 => ?_) (fun hb_6 hq_6 => ?_)
   ·replace hq_6 := bt hq_6
    refine il_ro (fun _ => (ro_move (u4 rfl s6_5))) ⟨_, rfl, hb_6⟩ rfl ?_
    refine il_ro (fun _ => (ro_eq (ro_ld_ref y26_ty3 rfl (up_m rfl (u4 rfl s2_5)) (nle rfl)) (by simp only [pS, Value.cells, Nat.reduceAdd] <;> rfl))) ⟨_, rfl, (up_m rfl hb_6)⟩ rfl ?_
    refine il_ro (fun _ => (ro_eq (ro_fld_ref qfl59_0 rfl (u2 rfl (u4 rfl s3_5))) (by simp only [pS, Value.cells, Nat.reduceAdd] <;> rfl))) ⟨_, rfl, (u2 rfl hb_6)⟩ rfl ?_
    refine il_ro (fun _ => (ro_eq (ro_ld_ref y26_ty3 rfl up_h (nle rfl)) (by simp only [pS, Value.cells, Nat.reduceAdd] <;> rfl))) ⟨_, rfl, (up_m rfl (u2 rfl hb_6))⟩ rfl ?_
    (refine il_ro (fun _ => (ro_add' (u2 rfl up_h) up_h ?_)) ⟨_, rfl, (u4 rfl hb_6)⟩ rfl ?_; · (unfold In64; omega))
    refine il_ro (fun _ => (ro_lss (u4 rfl up_h) up_h)) ⟨_, rfl, (up_m rfl (u4 rfl hb_6))⟩ rfl ?_
    refine il_ro (fun _ => (ro_pickT (u2 rfl (u4 rfl hb_6)) up_h)) trivial rfl ?_
    refine il_ro (fun _ => (ro_move up_h)) trivial rfl ?_
    refine il_case up_h (fun hb_7 hq_7 => ?_) (fun hb_7 hq_7 => ?_)
    ·replace hq_7 := bt hq_7
     refine il_ro (fun _ => (ro_move (u4 rfl (u8 rfl s0_5)))) ⟨_, rfl, hb_7⟩ rfl ?_
     refine il_ro (fun _ => (ro_move (up_m rfl (u4 rfl (u8 rfl s5_5))))) ⟨_, rfl, (up_m rfl hb_7)⟩ rfl ?_
     refine il_yield2 (up_m rfl up_h) (evL_cons up_h evL_nil) rfl ⟨_, rfl, (u2 rfl hb_7)⟩ rfl (by exact benY_at p1 (by omega) (by omega) (by omega) hix) ?_ ?_
     ·
      refine il_ro (fun _ => (ro_not up_h)) ⟨_, rfl, (up_m rfl (u2 rfl hb_7))⟩ rfl ?_
      refine il_ro (fun _ => (ro_pickT (u4 rfl hb_7) up_h)) trivial rfl ?_
      refine il_end (fun e_8 he_8 => ?_)
      have s0_8 := ef 0 he_8 (up_m rfl (u16 rfl s0_5))
      have s2_8 := ef 2 he_8 (up_m rfl (u16 rfl s2_5))
      have s3_8 := ef 3 he_8 (up_m rfl (u16 rfl s3_5))
      have s10_8 := ef 10 he_8 (up_m rfl (u16 rfl s10_5))
      have s11_8 := ef 11 he_8 (up_m rfl (u16 rfl s11_5))
      have s12_8 := ef 12 he_8 (up_m rfl (u16 rfl s12_5))
      have s33_8 := ef 33 he_8 up_h
      clear he_8 hb_6 hb_7 s0_5 s10_5 s11_5 s12_5 s2_5 s3_5 s5_5 s6_5
      refine theni_n <| iw_false s33_8 ?_
      refine iw_skip <| blocki_n <| theni_n <| iw_text ?_
      (refine il_ro (fun _ => (ro_add' s12_8 ev_c ?_)) trivial rfl ?_; · (unfold In64; omega))
      refine il_ro (fun _ => (ro_move up_h)) trivial rfl ?_
      refine il_end (fun e_10 he_10 => ?_)
      have s0_10 := ef 0 he_10 (u2 rfl s0_8)
      have s2_10 := ef 2 he_10 (u2 rfl s2_8)
      have s3_10 := ef 3 he_10 (u2 rfl s3_8)
      have s10_10 := ef 10 he_10 (u2 rfl s10_8)
      have s11_10 := ef 11 he_10 (u2 rfl s11_8)
      have s12_10 := ef 12 he_10 up_h
      clear he_10 s0_8 s10_8 s11_8 s12_8 s2_8 s33_8 s3_8
      refine theni_n <| ⟨_, ⟨s12_10, (s0_10.trans s0_1.symm), (s2_10.trans s2_1.symm), (s3_10.trans s3_1.symm), (s10_10.trans s10_1.symm), (s11_10.trans s11_1.symm), rfl, (by first | (rw [hix, benY_yes hinv.1 (by omega) (by omega)]; done) | (rw [hix, benY_no hinv.1 (by omega)]; done)), ?_⟩, ?_⟩
      ·(exact ⟨by omega, by omega⟩)
      ·((try dsimp only); omega)
     ·
      refine il_ro (fun _ => (ro_not up_h)) ⟨_, rfl, (up_m rfl (u2 rfl hb_7))⟩ rfl ?_
      refine il_ro (fun _ => (ro_pickT (u4 rfl hb_7) up_h)) trivial rfl ?_
      refine il_end (fun e_11 he_11 => ?_)
      have s0_11 := ef 0 he_11 (up_m rfl (u16 rfl s0_5))
      have s2_11 := ef 2 he_11 (up_m rfl (u16 rfl s2_5))
      have s3_11 := ef 3 he_11 (up_m rfl (u16 rfl s3_5))
      have s10_11 := ef 10 he_11 (up_m rfl (u16 rfl s10_5))
      have s11_11 := ef 11 he_11 (up_m rfl (u16 rfl s11_5))
      have s12_11 := ef 12 he_11 (up_m rfl (u16 rfl s12_5))
      have s33_11 := ef 33 he_11 up_h
      clear he_11 hb_6 hb_7 s0_5 s10_5 s11_5 s12_5 s2_5 s3_5 s5_5 s6_5
      refine theni_n <| iw_true s33_11 ?_
      refine iw_ret <| blocki_r <| theni_r <| theni_r <| blocki_r <| gen_r (fun hb_ => (by cases hb_))
    replace hq_7 := bf hq_7
    refine il_skip ⟨_, rfl, .inl hb_7⟩ rfl ?_
    refine il_skip ⟨_, rfl, .inl (up_m rfl hb_7)⟩ rfl ?_
    refine il_skip ⟨_, rfl, .inl (u2 rfl hb_7)⟩ rfl ?_
    refine il_skip ⟨_, rfl, .inl (up_m rfl (u2 rfl hb_7))⟩ rfl ?_
    refine il_ro (fun _ => (ro_pickF (u4 rfl hb_7) ev_c)) trivial rfl ?_
    refine il_end (fun e_13 he_13 => ?_)
    have s0_13 := ef 0 he_13 (up_m rfl (u16 rfl s0_5))
    have s2_13 := ef 2 he_13 (up_m rfl (u16 rfl s2_5))
    have s3_13 := ef 3 he_13 (up_m rfl (u16 rfl s3_5))
    have s10_13 := ef 10 he_13 (up_m rfl (u16 rfl s10_5))
    have s11_13 := ef 11 he_13 (up_m rfl (u16 rfl s11_5))
    have s12_13 := ef 12 he_13 (up_m rfl (u16 rfl s12_5))
    have s33_13 := ef 33 he_13 up_h
    clear he_13 hb_6 hb_7 s0_5 s10_5 s11_5 s12_5 s2_5 s3_5 s5_5 s6_5
    refine theni_n <| iw_false s33_13 ?_
    refine iw_skip <| blocki_n <| theni_n <| iw_text ?_
    (refine il_ro (fun _ => (ro_add' s12_13 ev_c ?_)) trivial rfl ?_; · (unfold In64; omega))
    refine il_ro (fun _ => (ro_move up_h)) trivial rfl ?_
    refine il_end (fun e_15 he_15 => ?_)
    have s0_15 := ef 0 he_15 (u2 rfl s0_13)
    have s2_15 := ef 2 he_15 (u2 rfl s2_13)
    have s3_15 := ef 3 he_15 (u2 rfl s3_13)
    have s10_15 := ef 10 he_15 (u2 rfl s10_13)
    have s11_15 := ef 11 he_15 (u2 rfl s11_13)
    have s12_15 := ef 12 he_15 up_h
    clear he_15 s0_13 s10_13 s11_13 s12_13 s2_13 s33_13 s3_13
    refine theni_n <| ⟨_, ⟨s12_15, (s0_15.trans s0_1.symm), (s2_15.trans s2_1.symm), (s3_15.trans s3_1.symm), (s10_15.trans s10_1.symm), (s11_15.trans s11_1.symm), rfl, (by first | (rw [hix, benY_yes hinv.1 (by omega) (by omega)]; done) | (rw [hix, benY_no hinv.1 (by omega)]; done)), ?_⟩, ?_⟩
    ·(exact ⟨by omega, by omega⟩)
    ·((try dsimp only); omega)
   replace hq_6 := bf hq_6
   refine il_skip ⟨_, rfl, .inl hb_6⟩ rfl ?_
   refine il_skip ⟨_, rfl, .inl (up_m rfl hb_6)⟩ rfl ?_
   refine il_skip ⟨_, rfl, .inl (u2 rfl hb_6)⟩ rfl ?_
   refine il_skip ⟨_, rfl, .inl (up_m rfl (u2 rfl hb_6))⟩ rfl ?_
   refine il_skip ⟨_, rfl, .inl (u4 rfl hb_6)⟩ rfl ?_
   refine il_skip ⟨_, rfl, .inl (up_m rfl (u4 rfl hb_6))⟩ rfl ?_
   refine il_ro (fun _ => (ro_pickF (u2 rfl (u4 rfl hb_6)) ev_c)) trivial rfl ?_
   refine il_ro (fun _ => (ro_move up_h)) trivial rfl ?_
   refine il_skip ⟨_, rfl, .inl up_h⟩ rfl ?_
   refine il_skip ⟨_, rfl, .inl (up_m rfl up_h)⟩ rfl ?_
   refine il_skip ⟨_, rfl, .inl (u2 rfl up_h)⟩ rfl ?_
   refine il_skip ⟨_, rfl, .inl (up_m rfl (u2 rfl up_h))⟩ rfl ?_
   refine il_ro (fun _ => (ro_pickF (u4 rfl up_h) ev_c)) trivial rfl ?_
   refine il_end (fun e_16 he_16 => ?_)
   have s0_16 := ef 0 he_16 (up_m rfl (u16 rfl s0_5))
   have s2_16 := ef 2 he_16 (up_m rfl (u16 rfl s2_5))
   have s3_16 := ef 3 he_16 (up_m rfl (u16 rfl s3_5))
   have s10_16 := ef 10 he_16 (up_m rfl (u16 rfl s10_5))
   have s11_16 := ef 11 he_16 (up_m rfl (u16 rfl s11_5))
   have s12_16 := ef 12 he_16 (up_m rfl (u16 rfl s12_5))
   have s33_16 := ef 33 he_16 up_h
   clear he_16 hb_6 s0_5 s10_5 s11_5 s12_5 s2_5 s3_5 s5_5 s6_5
   refine theni_n <| iw_false s33_16 ?_
   refine iw_skip <| blocki_n <| theni_n <| iw_text ?_
   (refine il_ro (fun _ => (ro_add' s12_16 ev_c ?_)) trivial rfl ?_; · (unfold In64; omega))
   refine il_ro (fun _ => (ro_move up_h)) trivial rfl ?_
   refine il_end (fun e_18 he_18 => ?_)
   have s0_18 := ef 0 he_18 (u2 rfl s0_16)
   have s2_18 := ef 2 he_18 (u2 rfl s2_16)
   have s3_18 := ef 3 he_18 (u2 rfl s3_16)
   have s10_18 := ef 10 he_18 (u2 rfl s10_16)
   have s11_18 := ef 11 he_18 (u2 rfl s11_16)
   have s12_18 := ef 12 he_18 up_h
   clear he_18 s0_16 s10_16 s11_16 s12_16 s2_16 s33_16 s3_16
   refine theni_n <| ⟨_, ⟨s12_18, (s0_18.trans s0_1.symm), (s2_18.trans s2_1.symm), (s3_18.trans s3_1.symm), (s10_18.trans s10_1.symm), (s11_18.trans s11_1.symm), rfl, (by first | (rw [hix, benY_yes hinv.1 (by omega) (by omega)]; done) | (rw [hix, benY_no hinv.1 (by omega)]; done)), ?_⟩, ?_⟩
   ·(exact ⟨by omega, by omega⟩)
   ·((try dsimp only); omega)
  replace hq_4 := bf hq_4
  refine iw_exit <| theni_x <| theni_x <| blocki_hit ?_
  refine gen_n (fun hb_ => ?_)
  (first | (rw [hix, benY_len]; unfold benL; rw [show j.toNat = l.js.length by omega]; done))
set_option maxRecDepth 100000 in
set_option maxHeartbeats 4000000 in
theorem beneath_ok (l : Lin) (L c s p : Int) : FnOk Try.prog 47 [tkA l, vehA L c s, mA p] (fun q => q = .clo (.func 66) [] [.ref [tkA l], .ref [mA p], .ref [mA L, mA c, mA s]]) := by
 refine fnOk_of (fn := Try.f47) 8 (by kernel_rfl) rfl (by kernel_rfl) (Nat.le_of_ble_eq_true rfl) ?_
 intro e_0 m_0 hA hm_0
 have s0_0 : evA e_0 (.tmp 0) = _ := hA 0 _ rfl
 have s1_0 : evA e_0 (.tmp 1) = _ := hA 1 _ rfl
 have s2_0 : evA e_0 (.tmp 2) = _ := hA 2 _ rfl
 have ml_0 : m_0.length = 0 := by rw [hm_0]; rfl
 clear hA hm_0
 refine aw_seq <| at_ <| al_stm (st_box s0_0 rfl ml_0) trivial rfl (fun m_1 hm_1 => ?_)
 have mo0_1 := m_push hm_1 ml_0
 (first | (simp only [pS, Value.cells, Nat.reduceAdd] at mo0_1; trace "W2.N.1.1") | skip)
 have ml_1 := m_push_l hm_1 ml_0
 have ml_1 : _ = 1 := ml_1
 clear hm_1
 refine al_stm (st_box (up_m rfl s1_0) rfl ml_1) trivial rfl (fun m_2 hm_2 => ?_)
 have mo1_2 := m_push hm_2 ml_1
 (first | (simp only [pS, Value.cells, Nat.reduceAdd] at mo1_2; trace "W2.N.2.1") | skip)
 have mo0_2 := m_push_o hm_2 mo0_1
 have ml_2 := m_push_l hm_2 ml_1
 have ml_2 : _ = 2 := ml_2
 clear hm_2 mo0_1
 refine al_stm (st_box (u2 rfl s2_0) rfl ml_2) trivial rfl (fun m_3 hm_3 => ?_)
 have mo2_3 := m_push hm_3 ml_2
 (first | (simp only [pS, Value.cells, Nat.reduceAdd] at mo2_3; trace "W2.N.3.1") | skip)
 have mo1_3 := m_push_o hm_3 mo1_2
 have mo0_3 := m_push_o hm_3 mo0_2
 have ml_3 := m_push_l hm_3 ml_2
 have ml_3 : _ = 3 := ml_3
 clear hm_3 mo1_2 mo0_2
 refine ar (ro_assign ev_c) rfl <| ae3 (up_m rfl (u2 rfl up_h)) (u2 rfl up_h) (up_m rfl up_h) ?_; clear s0_0 s1_0 s2_0; intro e_4 s3_4 s4_4 s5_4
 refine then_n <| aw_seq <| at_ <| ar (ro_makeFunc evL_nil (evL_cons s3_4 (evL_cons s5_4 (evL_cons s4_4 evL_nil)))) rfl <| ar (ro_assign up_h) rfl <| ae1 up_h ?_; clear s3_4 s4_4 s5_4; intro e_5 s6_5
 refine then_n <| aw_ret <| ret1 (.inr rfl) (by kernel_rfl) (resV_tmp s6_5) (vw_clo vwl_nil (vwl_cons (vw_ptr mo0_3 (vwl_cons (.ro _ rfl) vwl_nil)) (vwl_cons (vw_ptr mo2_3 (vwl_cons (.ro _ rfl) vwl_nil)) (vwl_cons (vw_ptr mo1_3 (vwl_cons (.ro _ rfl) (vwl_cons (.ro _ rfl) (vwl_cons (.ro _ rfl) vwl_nil)))) vwl_nil)))) ?_
 clear s6_5 mo2_3 mo1_3 mo0_3 ml_3
 rfl
def benI (l : Lin) (L p j : Int) : Bool := decide (0 ≤ j) && decide (j < l.js.length) && benB l L p j.toNat
def Non (l : Lin) (L p j : Int) (i : Nat) : Prop := ∀ k : Nat, k < i → ∀ n : Nat, (benL l L p)[k]? = some n → (n : Int) ≠ j
theorem Non.step {l : Lin} {L p j : Int} {i n : Nat} (h : Non l L p j i) (hn : (benL l L p)[i]? = some n) (hne : ¬ (n : Int) = j) : Non l L p j (i + 1) := fun k hk m hm => by
 by_cases hki : k = i
 ·subst hki; rw [hn] at hm; cases hm; exact hne
 ·exact h k (by omega) m hm
theorem benI_yes {l : Lin} {L p j : Int} {n : Nat} (hj : (n : Int) = j) (n1 : n < l.js.length) (n2 : p < plaP l.bs n) (n3 : plaP l.bs n < p + L) : benI l L p j = true := by
 subst hj
 simp [benI, benB, n1, n2, n3]
theorem benI_no {l : Lin} {L p j : Int} (h : Non l L p j (benY l L p).length) : benI l L p j = false := by
 cases hb : benI l L p j with
 | false => rfl
 | true =>
  unfold benI at hb
  simp only [Bool.and_eq_true, decide_eq_true_eq] at hb
  obtain ⟨⟨h0, h1⟩, h2⟩ := hb
  have hm : j.toNat ∈ benL l L p := by
   unfold benL
   rw [List.mem_filter]
   exact ⟨List.mem_range.2 (by omega), h2⟩
  obtain ⟨k, hk⟩ := List.mem_iff_getElem?.1 hm
  have hlt := (List.getElem?_eq_some_iff.1 hk).1
  exact absurd (show ((j.toNat : Nat) : Int) = j by omega) (h k (by rw [benY_len]; exact hlt) _ hk)
set_option maxRecDepth 100000 in
set_option maxHeartbeats 4000000 in
theorem deviationAt_good (l : Lin) (hl : Sho l) (hg : (linM l).2 = 0) (L c s p j : Int) (hv : vehE L c s = 0) (hp : posE l L s p = 0) : FnOk Try.prog 25 [lnA l, vehA L c s, .agg [mA p, mA j]] (fun q => q = if benI l L p j then .tuple [.agg [mA (devLo l L p j.toNat), mA (devHi l L p j.toNat)], mA 0] else .tuple [.agg [mA 0, mA 0], mA 6]) := by
 refine fnOk_of (fn := Try.f25) 40 (by kernel_rfl) rfl (by kernel_rfl) (Nat.le_of_ble_eq_true rfl) ?_
 intro e_0 m_0 hA hm_0
 have s0_0 : evA e_0 (.tmp 0) = _ := hA 0 _ rfl
 have s1_0 : evA e_0 (.tmp 1) = _ := hA 1 _ rfl
 have s2_0 : evA e_0 (.tmp 2) = _ := hA 2 _ rfl
 have ml_0 : m_0.length = 0 := by rw [hm_0]; rfl
 clear hA hm_0
 have h := rgt_of hg; have hv2 := vehE_z.1 hv; have hp2 := posE_z.1 hp; have hpb := h.pla (n := l.bs.length) (Nat.le_refl _)
 refine aw_seq <| at_ <| al_stm (st_box s0_0 rfl ml_0) trivial rfl (fun m_1 hm_1 => ?_)
 have mo0_1 := m_push hm_1 ml_0
 have ml_1 := m_push_l hm_1 ml_0
 have ml_1 : _ = 1 := ml_1
 clear hm_1
 refine al_stm (st_box (up_m rfl s1_0) rfl ml_1) trivial rfl (fun m_2 hm_2 => ?_)
 have mo1_2 := m_push hm_2 ml_1
 have mo0_2 := m_push_o hm_2 mo0_1
 have ml_2 := m_push_l hm_2 ml_1
 have ml_2 : _ = 2 := ml_2
 clear hm_2 mo0_1
 refine al_stm (st_box (u2 rfl s2_0) rfl ml_2) trivial rfl (fun m_3 hm_3 => ?_)
 have mo2_3 := m_push hm_3 ml_2
 have mo1_3 := m_push_o hm_3 mo1_2
 have mo0_3 := m_push_o hm_3 mo0_2
 have ml_3 := m_push_l hm_3 ml_2
 have ml_3 : _ = 3 := ml_3
 clear hm_3 mo1_2 mo0_2
 refine al_stm (st_alloc qaz55 rfl ml_3) trivial rfl (fun m_4 hm_4 => ?_)
 have mo3_4 := m_push hm_4 ml_3
 simp only [pS, Value.cells, Nat.reduceAdd] at mo3_4
 have mo2_4 := m_push_o hm_4 mo2_3
 have mo1_4 := m_push_o hm_4 mo1_3
 have mo0_4 := m_push_o hm_4 mo0_3
 have ml_4 := m_push_l hm_4 ml_3
 have ml_4 : _ = 4 := ml_4
 clear hm_4 mo2_3 mo1_3 mo0_3
 refine al_stm (st_alloc y26_az29 rfl ml_4) trivial rfl (fun m_5 hm_5 => ?_)
 have mo4_5 := m_push hm_5 ml_4
 simp only [pS, Value.cells, Nat.reduceAdd] at mo4_5
 have mo3_5 := m_push_o hm_5 mo3_4
 have mo2_5 := m_push_o hm_5 mo2_4
 have mo1_5 := m_push_o hm_5 mo1_4
 have mo0_5 := m_push_o hm_5 mo0_4
 have ml_5 := m_push_l hm_5 ml_4
 have ml_5 : _ = 5 := ml_5
 clear hm_5 mo3_4 mo2_4 mo1_4 mo0_4
 refine ae5 (u4 rfl up_h) (up_m rfl (u2 rfl up_h)) (u2 rfl up_h) (up_m rfl up_h) up_h ?_; clear s0_0 s1_0 s2_0; intro e_6 s3_6 s4_6 s5_6 s6_6 s7_6
 refine then_n <| aw_seq <| at_ <| ar (ro_eq (ro_ld_ptr y26_ty26 rfl mo0_5 s3_6 (nle rfl)) (by simp only [pS, Value.cells, Nat.reduceAdd] <;> rfl)) rfl ?_
 refine ar (ro_eq (ro_ld_ptr y26_ty59 rfl mo1_5 (up_m rfl s4_6) (nle rfl)) (by simp only [pS, Value.cells, Nat.reduceAdd] <;> rfl)) rfl ?_
 refine ar (ro_ixa y26_ar60 (u2 rfl s5_6) ev_c rfl) rfl <| ar (ro_eq (ro_ld_ptr y26_ty3 rfl mo2_5 up_h (nle rfl)) (by simp only [pS, Value.cells, Nat.reduceAdd] <;> rfl)) rfl ?_
 refine ar (ro_call (evL_cons (up_m rfl (u2 rfl up_h)) (evL_cons (u2 rfl up_h) (evL_cons up_h evL_nil))) rfl (openPose_good l hl hg L c s p hv) y26_hcf46) rfl <| ar (ro_move up_h) rfl <| ar (ro_extract up_h rfl) rfl <| ar (ro_extract (up_m rfl up_h) rfl) rfl <| al_stm (st_alloc y26_az61 rfl ml_5) trivial rfl (fun m_7 hm_7 => ?_)
 have mo5_7 := m_push hm_7 ml_5
 simp only [pS, Value.cells, Nat.reduceAdd] at mo5_7
 have mo4_7 := m_push_o hm_7 mo4_5
 have mo3_7 := m_push_o hm_7 mo3_5
 have mo2_7 := m_push_o hm_7 mo2_5
 have mo1_7 := m_push_o hm_7 mo1_5
 have mo0_7 := m_push_o hm_7 mo0_5
 have ml_7 := m_push_l hm_7 ml_5
 have ml_7 : _ = 6 := ml_7
 clear hm_7 mo4_5 mo3_5 mo2_5 mo1_5 mo0_5
 refine al_stm (st_store up_h (u2 rfl up_h) rfl rfl mo5_7 y26_sz61 rfl (nle rfl)) trivial rfl (fun m_8 hm_8 => ?_)
 have mo5_8 := m_set hm_8 mo5_7
 simp only [pS, Value.cells, Nat.reduceAdd] at mo5_8
 have mo4_8 := m_set_o hm_8 mo4_7 (by decide)
 have mo3_8 := m_set_o hm_8 mo3_7 (by decide)
 have mo2_8 := m_set_o hm_8 mo2_7 (by decide)
 have mo1_8 := m_set_o hm_8 mo1_7 (by decide)
 have mo0_8 := m_set_o hm_8 mo0_7 (by decide)
 have ml_8 := m_set_l hm_8 ml_7
 clear hm_8 mo5_7 mo4_7 mo3_7 mo2_7 mo1_7 mo0_7
 refine ar (ro_assign (up_n (up_m rfl up_h))) rfl <| ae6 (up_m rfl (up_n (up_m rfl (u8 rfl s4_6)))) (up_m rfl (up_n (up_m rfl (u8 rfl s5_6)))) (up_m rfl (up_n (up_m rfl (u8 rfl s6_6)))) (up_m rfl (up_n (up_m rfl (u8 rfl s7_6)))) (up_m rfl (up_n up_h)) up_h ?_; clear s3_6 s4_6 s5_6 s6_6 s7_6; intro e_9 s4_9 s5_9 s6_9 s7_9 s8_9 s9_9
 refine then_n <| aw_seq <| aw_seq <| at_ <| ar (ro_move s9_9) rfl <| ar (ro_neq up_h ev_c) rfl <| ae7 (u2 rfl s4_9) (u2 rfl s5_9) (u2 rfl s6_9) (u2 rfl s7_9) (u2 rfl s8_9) (u2 rfl s9_9) up_h ?_; clear s4_9 s5_9 s6_9 s7_9 s8_9 s9_9; intro e_10 s4_10 s5_10 s6_10 s7_10 s8_10 s9_10 s20_10
 refine then_n <| aw_case s20_10 (fun hq_11 => ?_) (fun hq_11 => ?_)
 ·replace hq_11 := bnt hq_11; exfalso; omega
 replace hq_11 := bnf hq_11
 refine aw_skip <| then_n <| aw_seq <| aw_seq <| at_ <| ar (ro_eq (ro_ld_ptr y26_ty61 rfl mo5_8 s8_10 (nle rfl)) (by simp only [pS, Value.cells, Nat.reduceAdd] <;> rfl)) rfl ?_
 refine ar (ro_eq (ro_ld_ptr y26_ty59 rfl mo1_8 (up_m rfl s4_10) (nle rfl)) (by simp only [pS, Value.cells, Nat.reduceAdd] <;> rfl)) rfl ?_
 refine ar (ro_ixa y26_ar60 (u2 rfl s5_10) ev_c rfl) rfl <| ar (ro_eq (ro_ld_ptr y26_ty3 rfl mo2_8 up_h (nle rfl)) (by simp only [pS, Value.cells, Nat.reduceAdd] <;> rfl)) rfl ?_
 refine ar (ro_call (evL_cons (up_m rfl (u2 rfl up_h)) (evL_cons (u2 rfl up_h) (evL_cons up_h evL_nil))) rfl (beneath_ok l L c s p) y26_hcf47) rfl <| ae6 (up_m rfl (u4 rfl s4_10)) (up_m rfl (u4 rfl s5_10)) (up_m rfl (u4 rfl s6_10)) (up_m rfl (u4 rfl s7_10)) (up_m rfl (u4 rfl s8_10)) up_h ?_; clear s20_10 s4_10 s5_10 s6_10 s7_10 s8_10 s9_10; intro e_15 s4_15 s5_15 s6_15 s7_15 s8_15 s27_15
 refine then_n <| aw_block <| aw_range1 s27_15 (beneath1_gen l h L c s p hv2.1 (by omega)) y26_hcf66 (by exact benY_one) (Nat.le_of_ble_eq_true rfl) (fun i mem => (mem[5]? = m_8[5]?) ∧ (mem[4]? = m_8[4]?) ∧ (mem[3]? = m_8[3]?) ∧ (mem[2]? = m_8[2]?) ∧ (mem[1]? = m_8[1]?) ∧ (mem[0]? = m_8[0]?) ∧ (mem.length = 6) ∧ ((Non l L p j i))) ⟨rfl, rfl, rfl, rfl, rfl, rfl, ml_8, ?_⟩ ?_ ?_
 ·(intro k hk; omega)
 ·rintro i_16 y0_16 m_16 hy_16 ⟨mk5_16, mk4_16, mk3_16, mk2_16, mk1_16, mk0_16, ml_16, hinv⟩
  (obtain ⟨n, hn, rfl, n1, n2, n3⟩ := benY_of hy_16; have hq : Pos l L p n := ⟨by omega, by omega, by omega, by omega, by omega, by omega, n1⟩)
  have mo5_16 := mk5_16.trans mo5_8
  have mo4_16 := mk4_16.trans mo4_8
  have mo3_16 := mk3_16.trans mo3_8
  have mo2_16 := mk2_16.trans mo2_8
  have mo1_16 := mk1_16.trans mo1_8
  have mo0_16 := mk0_16.trans mo0_8
  refine aw_env (fun e_16 he_16 => ?_)
  have s4_16 := ef 4 he_16 (up_m rfl s4_15)
  have s5_16 := ef 5 he_16 (up_m rfl s5_15)
  have s6_16 := ef 6 he_16 (up_m rfl s6_15)
  have s7_16 := ef 7 he_16 (up_m rfl s7_15)
  have s8_16 := ef 8 he_16 (up_m rfl s8_15)
  have s27_16 := ef 27 he_16 (up_m rfl s27_15)
  have s28_16 := ef 28 he_16 up_h
  clear he_16
  refine at_ <| ar (ro_assign s28_16) rfl <| ae6 (up_m rfl s4_16) (up_m rfl s5_16) (up_m rfl s6_16) (up_m rfl s7_16) (up_m rfl s8_16) up_h ?_; clear s27_16 s28_16 s4_16 s5_16 s6_16 s7_16 s8_16; intro e_17 s4_17 s5_17 s6_17 s7_17 s8_17 s10_17
  refine fallb_n ?_
  refine aw_block <| aw_seq <| at_ <| ar (ro_move s10_17) rfl <| ar (ro_ixa y26_ar60 (up_m rfl s5_17) ev_c rfl) rfl <| ar (ro_eq (ro_ld_ptr y26_ty3 rfl mo2_16 up_h (nle rfl)) (by simp only [pS, Value.cells, Nat.reduceAdd] <;> rfl)) rfl ?_
  refine ar (ro_eql (u2 rfl up_h) up_h) rfl ?_
  refine ae7 (u4 rfl s4_17) (u4 rfl s5_17) (u4 rfl s6_17) (u4 rfl s7_17) (u4 rfl s8_17) (u4 rfl s10_17) up_h ?_; clear s10_17 s4_17 s5_17 s6_17 s7_17 s8_17; intro e_18 s4_18 s5_18 s6_18 s7_18 s8_18 s10_18 s32_18
  refine then_n <| aw_case s32_18 (fun hq_19 => ?_) (fun hq_19 => ?_)
  ·replace hq_19 := bt hq_19
   refine aw_seq <| at_ <| ar (ro_eq (ro_ld_ptr y26_ty61 rfl mo5_16 s8_18 (nle rfl)) (by simp only [pS, Value.cells, Nat.reduceAdd] <;> rfl)) rfl ?_
   refine ar (ro_eq (ro_ld_ptr y26_ty59 rfl mo1_16 (up_m rfl s4_18) (nle rfl)) (by simp only [pS, Value.cells, Nat.reduceAdd] <;> rfl)) rfl ?_
   refine ar (ro_ixa y26_ar60 (u2 rfl s5_18) ev_c rfl) rfl <| ar (ro_eq (ro_ld_ptr y26_ty3 rfl mo2_16 up_h (nle rfl)) (by simp only [pS, Value.cells, Nat.reduceAdd] <;> rfl)) rfl ?_
   refine ar (ro_move (u4 rfl s10_18)) rfl <| ar (ro_call (evL_cons (u4 rfl up_h) (evL_cons (up_m rfl (u2 rfl up_h)) (evL_cons (up_m rfl up_h) (evL_cons up_h evL_nil)))) rfl (deviation_ok l h L c s p n hq) y26_hcf48) rfl <| al_stm (st_store (u2 rfl (u4 rfl s6_18)) up_h rfl rfl mo3_16 qsz55 rfl (nle rfl)) trivial rfl (fun m_20 hm_20 => ?_)
   have mo3_20 := m_set hm_20 mo3_16
   simp only [pS, Value.cells, Nat.reduceAdd] at mo3_20
   have mo5_20 := m_set_o hm_20 mo5_16 (by decide)
   have mo4_20 := m_set_o hm_20 mo4_16 (by decide)
   have mo2_20 := m_set_o hm_20 mo2_16 (by decide)
   have mo1_20 := m_set_o hm_20 mo1_16 (by decide)
   have mo0_20 := m_set_o hm_20 mo0_16 (by decide)
   have ml_20 := m_set_l hm_20 ml_16
   clear hm_20 mo5_16 mo4_16 mo3_16 mo2_16 mo1_16 mo0_16
   refine al_stm (st_store (up_n (u2 rfl (u4 rfl s7_18))) ev_c rfl rfl mo4_20 y26_sz29 rfl (nle rfl)) trivial rfl (fun m_21 hm_21 => ?_)
   have mo4_21 := m_set hm_21 mo4_20
   simp only [pS, Value.cells, Nat.reduceAdd] at mo4_21
   have mo3_21 := m_set_o hm_21 mo3_20 (by decide)
   have mo5_21 := m_set_o hm_21 mo5_20 (by decide)
   have mo2_21 := m_set_o hm_21 mo2_20 (by decide)
   have mo1_21 := m_set_o hm_21 mo1_20 (by decide)
   have mo0_21 := m_set_o hm_21 mo0_20 (by decide)
   have ml_21 := m_set_l hm_21 ml_20
   clear hm_21 mo3_20 mo5_20 mo4_20 mo2_20 mo1_20 mo0_20
   refine ae2 (up_n (up_n (u2 rfl (u4 rfl s6_18)))) (up_n (up_n (u2 rfl (u4 rfl s7_18)))) ?_; clear s10_18 s32_18 s4_18 s5_18 s6_18 s7_18 s8_18; intro e_22 s6_22 s7_22
   refine then_n <| aw_ret <| block_r <| rnd_r <| block_r <| then_r <| ret2 (.inr rfl) (by kernel_rfl) (resV_cell s6_15 mo3_21 y26_ty55 (nle rfl) (by simp)) (resV_cell s7_15 mo4_21 y26_ty29 (nle rfl) (by simp)) (vw_r (.ro _ rfl)) (vw_c (.ro _ rfl)) ?_
   clear s27_15 s4_15 s5_15 s6_15 s7_15 s8_15 mo4_21 mo3_21 mo5_21 mo2_21 mo1_21 mo0_21 ml_21
   (have hj : (n : Int) = j := (by assumption); rw [if_pos (benI_yes hj n1 n2 n3), ← hj]; rfl)
  replace hq_19 := bf hq_19
  refine aw_skip <| block_n <| rnd_n ⟨(mo5_16.trans mo5_8.symm), (mo4_16.trans mo4_8.symm), (mo3_16.trans mo3_8.symm), (mo2_16.trans mo2_8.symm), (mo1_16.trans mo1_8.symm), (mo0_16.trans mo0_8.symm), ml_16, ?_⟩
  (exact hinv.step hn (by assumption))
 ·rintro m_16 ⟨mk5_16, mk4_16, mk3_16, mk2_16, mk1_16, mk0_16, ml_16, hinv⟩
  have mo5_16 := mk5_16.trans mo5_8
  have mo4_16 := mk4_16.trans mo4_8
  have mo3_16 := mk3_16.trans mo3_8
  have mo2_16 := mk2_16.trans mo2_8
  have mo1_16 := mk1_16.trans mo1_8
  have mo0_16 := mk0_16.trans mo0_8
  refine block_n <| then_n <| aw_seq <| at_ <| ar (ro_build evP_nil qbz55 qbu55 qbp55 rfl) rfl ?_
  refine al_stm (st_store (up_m rfl s6_15) up_h rfl rfl mo3_16 qsz55 rfl (nle rfl)) trivial rfl (fun m_23 hm_23 => ?_)
  have mo3_23 := m_set hm_23 mo3_16
  simp only [pS, Value.cells, Nat.reduceAdd] at mo3_23
  have mo5_23 := m_set_o hm_23 mo5_16 (by decide)
  have mo4_23 := m_set_o hm_23 mo4_16 (by decide)
  have mo2_23 := m_set_o hm_23 mo2_16 (by decide)
  have mo1_23 := m_set_o hm_23 mo1_16 (by decide)
  have mo0_23 := m_set_o hm_23 mo0_16 (by decide)
  have ml_23 := m_set_l hm_23 ml_16
  clear hm_23 mo5_16 mo4_16 mo3_16 mo2_16 mo1_16 mo0_16
  refine al_stm (st_store (up_n (up_m rfl s7_15)) ev_c rfl rfl mo4_23 y26_sz29 rfl (nle rfl)) trivial rfl (fun m_24 hm_24 => ?_)
  have mo4_24 := m_set hm_24 mo4_23
  simp only [pS, Value.cells, Nat.reduceAdd] at mo4_24
  have mo3_24 := m_set_o hm_24 mo3_23 (by decide)
  have mo5_24 := m_set_o hm_24 mo5_23 (by decide)
  have mo2_24 := m_set_o hm_24 mo2_23 (by decide)
  have mo1_24 := m_set_o hm_24 mo1_23 (by decide)
  have mo0_24 := m_set_o hm_24 mo0_23 (by decide)
  have ml_24 := m_set_l hm_24 ml_23
  clear hm_24 mo3_23 mo5_23 mo4_23 mo2_23 mo1_23 mo0_23
  refine ae2 (up_n (up_n (up_m rfl s6_15))) (up_n (up_n (up_m rfl s7_15))) ?_; clear s27_15 s4_15 s5_15 s6_15 s7_15 s8_15; intro e_25 s6_25 s7_25
  refine then_n <| aw_ret <| ret2 (.inr rfl) (by kernel_rfl) (resV_cell s6_25 mo3_24 y26_ty55 (nle rfl) (by simp)) (resV_cell s7_25 mo4_24 y26_ty29 (nle rfl) (by simp)) (vw_r (.ro _ rfl)) (vw_c (.ro _ rfl)) ?_
  clear s6_25 s7_25 mo4_24 mo3_24 mo5_24 mo2_24 mo1_24 mo0_24 ml_24
  (rw [if_neg (by rw [benI_no hinv]; decide)]; rfl)
theorem jnE_plain (l : List Jnt) : (l.map jnE).flatten.all plainA = true := by
 induction l with
 | nil => rfl
 | cons p l ih => simp only [List.map_cons, List.flatten_cons, List.all_append, ih, Bool.and_true]; rfl
theorem set_jn4 (js : List Jnt) (i : Nat) (a b c d : Int) : (js.map jnE).set i [AV.v (.int .i64 a), AV.v (.int .i64 b), AV.v (.int .i64 c), AV.v (.int .i64 d)] = (js.set i ⟨a, b, c, d⟩).map jnE := by simp [List.map_set, jnE]
theorem lisM_of {k : Int} {f : Nat → Int} {n : Nat} {z : (Int × Int) × Int} (h : ∀ j : Nat, j < n → f j = 0) : lisM k f n z = z := by
 unfold lisM; rw [firN_none h]
theorem rgt_to {l : Lin} (h : Rgt l) : (linM l).2 = 0 := by
 have h1 := h.n0
 have h2 := h.n1
 have h3 := h.js
 have h4 := h.s1
 unfold linM
 rw [h.nam, if_neg (by decide), if_neg (by omega), if_neg (by omega), lisM_of h.ja, lisM_of h.ba, if_neg (by omega), lisM_of h.sa]
structure Nar (a b : Jnt) : Prop where
 acr : b.acr = a.acr
 up : b.up = a.up
 lo : a.lo ≤ b.lo
 le : b.lo ≤ b.hi
 hi : b.hi ≤ a.hi
structure NarL (l m : Lin) : Prop where
 nam : m.nam = l.nam
 bs : m.bs = l.bs
 ss : m.ss = l.ss
 len : m.js.length = l.js.length
 js : ∀ i : Nat, i < l.js.length → Nar (l.js.getD i default) (m.js.getD i default)
theorem jntE_of {j : Jnt} (h : (-20000 ≤ j.acr ∧ j.acr ≤ 20000) ∧ (-20000 ≤ j.up ∧ j.up ≤ 20000) ∧ -100 ≤ j.lo ∧ j.hi ≤ 100 ∧ j.lo ≤ j.hi) : jntE j = 0 := by
 have h1 : jntB j = true := by
  simp only [jntB, smaB, Bool.and_eq_true, withinB_iff]
  omega
 unfold jntE
 rw [if_pos h1, if_pos h.2.2.2.2]
theorem Nar.f {a b : Jnt} (h : Nar a b) (w : Int) : loF w a ≤ loF w b ∧ loF w b ≤ hiF w b ∧ hiF w b ≤ hiF w a := by
 obtain ⟨h1, h2, h3, h4, h5⟩ := h
 unfold loF hiF
 rw [h1]
 rcases Int.le_total 0 w with hw | hw
 ·have a1 := Int.mul_le_mul_of_nonneg_left h3 hw
  have a2 := Int.mul_le_mul_of_nonneg_left h4 hw
  have a3 := Int.mul_le_mul_of_nonneg_left h5 hw
  omega
 ·have a1 := Int.mul_le_mul_of_nonpos_left hw h3
  have a2 := Int.mul_le_mul_of_nonpos_left hw h4
  have a3 := Int.mul_le_mul_of_nonpos_left hw h5
  omega
theorem NarL.at {l m : Lin} (n : NarL l m) (p : Int) : atI m p = atI l p ∧ atD m p = atD l p := by unfold atD atI; rw [n.bs]; exact ⟨rfl, rfl⟩
theorem NarL.refl {l : Lin} (h : Rgt l) : NarL l l := ⟨rfl, rfl, rfl, rfl, fun i hi => ⟨rfl, rfl, Int.le_refl _, (h.jnt i hi).2.2.2.2, Int.le_refl _⟩⟩
theorem y60_gq22 : Try.prog.eqGuardType Try.prog.depth 22 = false := by kernel_rfl
theorem y60_gq23 : Try.prog.eqGuardType Try.prog.depth 23 = false := by kernel_rfl
theorem y60_sl22 : SlIs Try.prog 22 66 4 32 (.agg #[.int .i64 0, .int .i64 0, .int .i64 0, .int .i64 0]) := ⟨by kernel_rfl, by kernel_rfl, by kernel_rfl⟩
theorem y60_sl23 : SlIs Try.prog 23 69 2 16 (.agg #[.int .i64 0, .int .i64 0]) := ⟨by kernel_rfl, by kernel_rfl, by kernel_rfl⟩
theorem y60_sl24 : SlIs Try.prog 24 47 3 48 (.agg #[.string ByteArray.empty, .int .i64 0, .slice none 0 0]) := ⟨by kernel_rfl, by kernel_rfl, by kernel_rfl⟩
theorem y60_sl40 : SlIs Try.prog 40 3 1 8 (.int .i64 0) := ⟨by kernel_rfl, by kernel_rfl, by kernel_rfl⟩
theorem y60_ty22 : TyIs Try.prog 22 false 1 := ⟨by kernel_rfl, by kernel_rfl⟩
theorem y60_ty23 : TyIs Try.prog 23 false 1 := ⟨by kernel_rfl, by kernel_rfl⟩
theorem y60_ty24 : TyIs Try.prog 24 false 1 := ⟨by kernel_rfl, by kernel_rfl⟩
theorem y60_ty26 : TyIs Try.prog 26 true 4 := ⟨by kernel_rfl, by kernel_rfl⟩
theorem y60_ty40 : TyIs Try.prog 40 false 1 := ⟨by kernel_rfl, by kernel_rfl⟩
theorem y60_ty47 : TyIs Try.prog 47 true 3 := ⟨by kernel_rfl, by kernel_rfl⟩
theorem y60_ty9 : TyIs Try.prog 9 false 1 := ⟨by kernel_rfl, by kernel_rfl⟩
theorem map_ne {α β : Type} {f : α → β} {l : List α} (h : l ≠ []) : l.map f ≠ [] := by simpa using h
theorem beE_plain (l : List Bea) : (l.map beE).flatten.all plainA = true := by
 induction l with
 | nil => rfl
 | cons p l ih => simp only [List.map_cons, List.flatten_cons, List.all_append, ih, Bool.and_true]; rfl
set_option maxRecDepth 100000 in
set_option maxHeartbeats 4000000 in
theorem cloneJ_row (js : List Jnt) (h0 : js ≠ []) (hl : js.length ≤ 1000000) : FnRow Try.prog 50 [.row 4 (js.map jnE)] 66 4 (js.map jnE) := by
 refine fnRow_of (fn := Try.f50) 8 (by kernel_rfl) rfl (by kernel_rfl) (Nat.le_of_ble_eq_true rfl) (by exact jnE_plain js) ?_
 intro e_0 m_0 hA hm_0
 have s0_0 : evA e_0 (.tmp 0) = _ := hA 0 _ rfl
 have ml_0 : m_0.length = 0 := by rw [hm_0]; rfl
 clear hA hm_0
 refine aw_seq <| at_ <| ar (ro_assign ev_c) rfl <| ae1 (up_m rfl s0_0) ?_; clear s0_0; intro e_1 s0_1
 refine then_n <| aw_seq <| aw_seq <| at_ <| ar (ro_move s0_1) rfl <| ar (ro_rowne y60_sl22 y60_gq22 up_h ev_c (by exact map_ne h0)) rfl ?_
 refine ae2 (u2 rfl s0_1) up_h ?_; clear s0_1; intro e_2 s0_2 s4_2
 refine then_n <| aw_false s4_2 <| aw_skip <| then_n <| aw_seq <| at_ <| ar (ro_lit0 y60_sl22) rfl <| ar (ro_move (up_m rfl s0_2)) rfl <| al_stm (st_ape (by simpa using h0) (by exact jnE_plain js) ml_0 y60_sl22 rfl (up_m rfl up_h) up_h (by simp only [lnS] <;> omega)) trivial rfl (fun m_4 hm_4 => ?_)
 have mo0_4 := m_push hm_4 ml_0
 have ml_4 := m_push_l hm_4 ml_0
 have ml_4 : _ = 1 := ml_4
 clear hm_4
 refine ar (ro_assign up_h) rfl <| ae1 up_h ?_; clear s0_2 s4_2; intro e_5 s2_5
 refine then_n <| aw_ret <| retRow (.inr rfl) (by kernel_rfl) s2_5 mo0_4 ?_
 first | rfl | (simp; done)
set_option maxRecDepth 100000 in
set_option maxHeartbeats 4000000 in
theorem cloneB_row (bs : List Bea) (h0 : bs ≠ []) (hl : bs.length ≤ 1000000) : FnRow Try.prog 51 [.row 2 (bs.map beE)] 69 2 (bs.map beE) := by
 refine fnRow_of (fn := Try.f51) 8 (by kernel_rfl) rfl (by kernel_rfl) (Nat.le_of_ble_eq_true rfl) (by exact beE_plain bs) ?_
 intro e_0 m_0 hA hm_0
 have s0_0 : evA e_0 (.tmp 0) = _ := hA 0 _ rfl
 have ml_0 : m_0.length = 0 := by rw [hm_0]; rfl
 clear hA hm_0
 refine aw_seq <| at_ <| ar (ro_assign ev_c) rfl <| ae1 (up_m rfl s0_0) ?_; clear s0_0; intro e_1 s0_1
 refine then_n <| aw_seq <| aw_seq <| at_ <| ar (ro_move s0_1) rfl <| ar (ro_rowne y60_sl23 y60_gq23 up_h ev_c (by exact map_ne h0)) rfl ?_
 refine ae2 (u2 rfl s0_1) up_h ?_; clear s0_1; intro e_2 s0_2 s4_2
 refine then_n <| aw_false s4_2 <| aw_skip <| then_n <| aw_seq <| at_ <| ar (ro_lit0 y60_sl23) rfl <| ar (ro_move (up_m rfl s0_2)) rfl <| al_stm (st_ape (by simpa using h0) (by exact beE_plain bs) ml_0 y60_sl23 rfl (up_m rfl up_h) up_h (by simp only [lnS] <;> omega)) trivial rfl (fun m_4 hm_4 => ?_)
 have mo0_4 := m_push hm_4 ml_0
 have ml_4 := m_push_l hm_4 ml_0
 have ml_4 : _ = 1 := ml_4
 clear hm_4
 refine ar (ro_assign up_h) rfl <| ae1 up_h ?_; clear s0_2 s4_2; intro e_5 s2_5
 refine then_n <| aw_ret <| retRow (.inr rfl) (by kernel_rfl) s2_5 mo0_4 ?_
 first | rfl | (simp; done)
set_option maxRecDepth 100000 in
set_option maxHeartbeats 4000000 in
theorem cloneB_ok (bs : List Bea) (h0 : bs ≠ []) (hl : bs.length ≤ 1000000) : FnOk Try.prog 51 [.row 2 (bs.map beE)] (fun q => q = .row 2 (bs.map beE)) := by
 refine fnOk_of (fn := Try.f51) 8 (by kernel_rfl) rfl (by kernel_rfl) (Nat.le_of_ble_eq_true rfl) ?_
 intro e_0 m_0 hA hm_0
 have s0_0 : evA e_0 (.tmp 0) = _ := hA 0 _ rfl
 have ml_0 : m_0.length = 0 := by rw [hm_0]; rfl
 clear hA hm_0
 refine aw_seq <| at_ <| ar (ro_assign ev_c) rfl <| ae1 (up_m rfl s0_0) ?_; clear s0_0; intro e_1 s0_1
 refine then_n <| aw_seq <| aw_seq <| at_ <| ar (ro_move s0_1) rfl <| ar (ro_rowne y60_sl23 y60_gq23 up_h ev_c (by exact map_ne h0)) rfl ?_
 refine ae2 (u2 rfl s0_1) up_h ?_; clear s0_1; intro e_2 s0_2 s4_2
 refine then_n <| aw_false s4_2 <| aw_skip <| then_n <| aw_seq <| at_ <| ar (ro_lit0 y60_sl23) rfl <| ar (ro_move (up_m rfl s0_2)) rfl <| ar (ro_ape y60_sl23 rfl (up_m rfl up_h) up_h (by simp only [lnS] <;> omega)) rfl ?_
 refine ar (ro_assign up_h) rfl <| ae1 up_h ?_; clear s0_2 s4_2; intro e_4 s2_4
 refine then_n <| aw_ret <| ret1 (.inr rfl) (by kernel_rfl) (resV_tmp s2_4) (.ro _ rfl) ?_
 clear s2_4 ml_0
 rfl
set_option maxRecDepth 100000 in
set_option maxHeartbeats 4000000 in
theorem cloneI_ok (xs : List Int) (h0 : xs ≠ []) (hl : xs.length ≤ 1000000) : FnOk Try.prog 52 [.row 1 (xs.map iE)] (fun q => q = .row 1 (xs.map iE)) := by
 refine fnOk_of (fn := Try.f52) 8 (by kernel_rfl) rfl (by kernel_rfl) (Nat.le_of_ble_eq_true rfl) ?_
 intro e_0 m_0 hA hm_0
 have s0_0 : evA e_0 (.tmp 0) = _ := hA 0 _ rfl
 have ml_0 : m_0.length = 0 := by rw [hm_0]; rfl
 clear hA hm_0
 refine aw_seq <| at_ <| ar (ro_assign ev_c) rfl <| ae1 (up_m rfl s0_0) ?_; clear s0_0; intro e_1 s0_1
 refine then_n <| aw_seq <| aw_seq <| at_ <| ar (ro_move s0_1) rfl <| ar (ro_rowne y60_sl40 qgq40 up_h ev_c (by exact map_ne h0)) rfl ?_
 refine ae2 (u2 rfl s0_1) up_h ?_; clear s0_1; intro e_2 s0_2 s4_2
 refine then_n <| aw_false s4_2 <| aw_skip <| then_n <| aw_seq <| at_ <| ar (ro_lit0 y60_sl40) rfl <| ar (ro_move (up_m rfl s0_2)) rfl <| ar (ro_ape y60_sl40 rfl (up_m rfl up_h) up_h (by simp only [lnS] <;> omega)) rfl ?_
 refine ar (ro_assign up_h) rfl <| ae1 up_h ?_; clear s0_2 s4_2; intro e_4 s2_4
 refine then_n <| aw_ret <| ret1 (.inr rfl) (by kernel_rfl) (resV_tmp s2_4) (.ro _ rfl) ?_
 clear s2_4 ml_0
 rfl
def Ful (l : Lin) : Prop := l.js ≠ [] ∧ l.bs ≠ [] ∧ ∀ s ∈ l.ss, s.acr ≠ []
theorem Ful.at {l : Lin} (h : Ful l) {i : Nat} (hi : i < l.ss.length) : (l.ss.getD i default).acr ≠ [] := by
 rw [List.getD_eq_getElem?_getD, List.getElem?_eq_getElem hi]; exact h.2.2 _ (List.getElem_mem hi)
set_option maxRecDepth 100000 in
set_option maxHeartbeats 4000000 in
theorem copied_own (l : Lin) (hl : Sho l) (hf : Ful l) : FnRowL Try.prog 28 [lnA l] 66 4 (l.js.map jnE) [some (.v (.string l.nam)), none, some (.row 2 (l.bs.map beE)), some (.row 3 (l.ss.map swE))] := by
 obtain ⟨h1, h2, h3, h4, h5⟩ := id hl
 refine fnRowL_of (fn := Try.f28) 34 (by kernel_rfl) rfl (by kernel_rfl) (Nat.le_of_ble_eq_true rfl) (by exact jnE_plain l.js) rfl ?_
 intro e_0 m_0 hA hm_0
 have s0_0 : evA e_0 (.tmp 0) = _ := hA 0 _ rfl
 have ml_0 : m_0.length = 0 := by rw [hm_0]; rfl
 clear hA hm_0
 refine aw_seq <| at_ <| al_stm (st_box s0_0 rfl ml_0) trivial rfl (fun m_1 hm_1 => ?_)
 have mo0_1 := m_push hm_1 ml_0
 have ml_1 := m_push_l hm_1 ml_0
 have ml_1 : _ = 1 := ml_1
 clear hm_1
 refine al_stm (st_alloc qaz26 rfl ml_1) trivial rfl (fun m_2 hm_2 => ?_)
 have mo1_2 := m_push hm_2 ml_1
 simp only [pS, Value.cells, Nat.reduceAdd, swE, one_swE, app_m] at mo1_2
 have mo0_2 := m_push_o hm_2 mo0_1
 have ml_2 := m_push_l hm_2 ml_1
 have ml_2 : _ = 2 := ml_2
 clear hm_2 mo0_1
 refine ae2 (up_m rfl up_h) up_h ?_; clear s0_0; intro e_3 s1_3 s2_3
 refine then_n <| aw_seq <| aw_drawK 10 2 ml_2 (by kernel_rfl) (by kernel_rfl) (by kernel_rfl) (by kernel_rfl) (fun m_4 hm_4 => ?_)
 have mo1_4 := m_room_o hm_4 mo1_2
 have mo0_4 := m_room_o hm_4 mo0_2
 have mo2_4 : m_4[2]? = _ := m_room_g hm_4 ml_2 0 rfl rfl
 have mo3_4 : m_4[3]? = _ := m_room_g hm_4 ml_2 1 rfl rfl
 have ml_4 : _ = 4 := m_room_l (K := 2) hm_4 ml_2
 clear hm_4 mo1_2 mo0_2 ml_2
 refine dh_ro (fun M_ hM_ => (ro_fld_ptr qfl26_0 rfl s1_3)) trivial ?_
 refine dh_ld (0) (fun M_ hM_ => (ro_eq (ro_ld_ptr y60_ty9 rfl (agr hM_ mo0_4 (by simp)) up_h (nle rfl)) (by simp only [pS, Value.cells, Nat.reduceAdd, swE, one_swE, app_m] <;> rfl))) trivial trivial ?_
 refine dh_ro (fun M_ hM_ => (ro_fld_ptr qfl26_1 rfl (u2 rfl s1_3))) trivial ?_
 refine dh_ld (0) (fun M_ hM_ => (ro_eq (ro_ld_ptr y60_ty22 rfl (agr hM_ mo0_4 (by simp)) up_h (nle rfl)) (by simp only [pS, Value.cells, Nat.reduceAdd, swE, one_swE, app_m] <;> rfl))) trivial trivial ?_
 refine dh_nw (2) (fun M_ hM_ => (nw_callrow (evL_cons up_h evL_nil) rfl (cloneJ_row _ hf.1 h2) qhcf50)) trivial mo2_4 rfl trivial ⟨.inl (by simp <;> omega), ⟨.inl (by simp <;> omega), trivial⟩⟩ (fun m_5 hm_5 => ?_)
 have mo2_5 := m_set hm_5 mo2_4
 have mo1_5 := m_set_o hm_5 mo1_4 (by decide)
 have mo0_5 := m_set_o hm_5 mo0_4 (by decide)
 have mo3_5 := m_set_o hm_5 mo3_4 (by decide)
 have ml_5 := m_set_l hm_5 ml_4
 clear hm_5 mo1_4 mo0_4 mo2_4 mo3_4
 refine dh_ro (fun M_ hM_ => (ro_fld_ptr qfl26_2 rfl (up_m rfl (u4 rfl s1_3)))) trivial ?_
 refine dh_ld (0) (fun M_ hM_ => (ro_eq (ro_ld_ptr y60_ty23 rfl (agr hM_ mo0_5 (by simp)) up_h (nle rfl)) (by simp only [pS, Value.cells, Nat.reduceAdd, swE, one_swE, app_m] <;> rfl))) trivial ⟨.inl (by simp <;> omega), trivial⟩ ?_
 refine dh_ro (fun M_ hM_ => (ro_call (evL_cons up_h evL_nil) rfl (cloneB_ok _ hf.2.1 h3) qhcf51)) trivial ?_
 refine dh_ro (fun M_ hM_ => (ro_build (evP_cons (u2 rfl (u4 rfl up_h)) (evP_cons (up_m rfl (u2 rfl up_h)) (evP_cons up_h evP_nil))) qbz26 qbu26 qbp26 rfl)) trivial ?_
 refine dh_nw (3) (fun M_ hM_ => (nw_alloc qaz26 rfl)) trivial mo3_5 rfl ⟨.inl (by simp <;> omega), trivial⟩ ⟨.inl (by simp <;> omega), ⟨.inl (by simp <;> omega), ⟨.inl (by simp <;> omega), ⟨.inl (by simp <;> omega), trivial⟩⟩⟩⟩ (fun m_6 hm_6 => ?_)
 have mo3_6 := m_set hm_6 mo3_5
 simp only [pS, Value.cells, Nat.reduceAdd, swE, one_swE, app_m] at mo3_6
 have mo2_6 := m_set_o hm_6 mo2_5 (by decide)
 have mo1_6 := m_set_o hm_6 mo1_5 (by decide)
 have mo0_6 := m_set_o hm_6 mo0_5 (by decide)
 have ml_6 := m_set_l hm_6 ml_5
 clear hm_6 mo2_5 mo1_5 mo0_5 mo3_5
 refine dh_nil rfl ?_
 refine al_stm (st_storeO up_h (up_m rfl up_h) rfl (oneL_c rfl (oneL_o mo2_6 (oneL_c rfl (oneL_c rfl oneL_nil)))) mo3_6 qsz26 rfl (nle rfl)) trivial rfl (fun m_7 hm_7 => ?_)
 have mo3_7 := m_set hm_7 mo3_6
 simp only [pS, Value.cells, Nat.reduceAdd, swE, one_swE, app_m] at mo3_7
 have mo2_7 := m_set_o hm_7 mo2_6 (by decide)
 have mo1_7 := m_set_o hm_7 mo1_6 (by decide)
 have mo0_7 := m_set_o hm_7 mo0_6 (by decide)
 have ml_7 := m_set_l hm_7 ml_6
 clear hm_7 mo3_6 mo2_6 mo1_6 mo0_6
 refine ae3 (up_n (u2 rfl (u8 rfl s1_3))) (up_n (u2 rfl (u8 rfl s2_3))) (up_n up_h) ?_; clear s1_3 s2_3; intro e_8 s1_8 s2_8 s3_8
 refine then_n <| aw_seq <| aw_seq <| at_ <| ar (ro_fld_ptr qfl26_3 rfl s1_8) rfl <| ar (ro_eq (ro_ld_ptr y60_ty24 rfl mo0_7 up_h (nle rfl)) (by simp only [pS, Value.cells, Nat.reduceAdd, swE, one_swE, app_m] <;> rfl)) rfl ?_
 refine ar (ro_eq (ro_len_row up_h rfl y60_sl24.1) (by simp only [lnS] <;> rfl)) rfl ?_
 refine ar (ro_move ev_c) rfl <| ae5 (u4 rfl s2_8) (u4 rfl s3_8) (u2 rfl up_h) (up_m rfl up_h) up_h ?_; clear s1_8 s2_8 s3_8; intro e_9 s2_9 s3_9 s16_9 s17_9 s18_9
 refine then_n <| aw_block <| aw_adoptC 47 3 3 mo3_7 rfl ml_7 (fun m0_10 m_10 h0_10 h1_10 => ?_)
 have mp4_10 := m_push h0_10 ml_7
 have mo4_10 := m_set_o h1_10 mp4_10 (by decide)
 have mp3_10 := m_push_o h0_10 mo3_7
 have mo3_10 := m_set h1_10 mp3_10
 simp only [List.set_cons_zero, List.set_cons_succ] at mo3_10
 have mp2_10 := m_push_o h0_10 mo2_7
 have mo2_10 := m_set_o h1_10 mp2_10 (by decide)
 have mp1_10 := m_push_o h0_10 mo1_7
 have mo1_10 := m_set_o h1_10 mp1_10 (by decide)
 have mp0_10 := m_push_o h0_10 mo0_7
 have mo0_10 := m_set_o h1_10 mp0_10 (by decide)
 have mq_10 := m_push_l h0_10 ml_7
 have ml_10 : _ = 5 := m_set_l h1_10 mq_10
 clear h0_10 h1_10 mq_10 mp4_10 mp3_10 mp2_10 mp1_10 mp0_10
 refine aw_loop (S := (Nat × Int × List Swi)) (fun s e mem => match s with | ⟨k, i, xs⟩ => (evA e (.tmp 18) = .v (.int .i64 i)) ∧ (evA e (.tmp 2) = evA e_9 (.tmp 2)) ∧ (evA e (.tmp 3) = evA e_9 (.tmp 3)) ∧ (evA e (.tmp 16) = evA e_9 (.tmp 16)) ∧ (evA e (.tmp 17) = evA e_9 (.tmp 17)) ∧ (mem[3]? = some (.box 26 [.v (.string l.nam), .own 2, .row 2 (l.bs.map beE), .own k])) ∧ (mem[k]? = some (.row 47 3 (xs.map swE))) ∧ (mem[2]? = m_10[2]?) ∧ (mem[1]? = m_10[1]?) ∧ (mem[0]? = m_10[0]?) ∧ (∃ n, mem.length = n ∧ 5 ≤ n) ∧ ((4 ≤ k ∧ 0 ≤ i ∧ i ≤ l.ss.length ∧ xs = l.ss.take i.toNat))) (fun s => match s with | ⟨k, i, xs⟩ => (l.ss.length - i).toNat) ⟨_, _, []⟩ ⟨s18_9, rfl, rfl, rfl, rfl, mo3_10, mo4_10, rfl, rfl, rfl, ⟨_, ml_10, Nat.le_refl _⟩, ?_⟩ ?_
 ·(exact ⟨by omega, by omega, by omega, rfl⟩)
 ·rintro ⟨k, i, xs⟩ e_11 m_11 ⟨s18_11, k2_11, k3_11, k16_11, k17_11, mo3_11, mok_11, mk2_11, mk1_11, mk0_11, ⟨n_11, ml_11, hn_11⟩, hinv⟩
  have s2_11 := k2_11.trans s2_9
  have s3_11 := k3_11.trans s3_9
  have s16_11 := k16_11.trans s16_9
  have s17_11 := k17_11.trans s17_9
  have mo2_11 := mk2_11.trans mo2_10
  have mo1_11 := mk1_11.trans mo1_10
  have mo0_11 := mk0_11.trans mo0_10
  have jlk_11 := m_lt mok_11 ml_11
  (obtain ⟨q1, p1, p2, p3⟩ := hinv; have hso := hl.at i.toNat; have hxl : xs.length ≤ 1000000 := (by rw [p3, List.length_take]; omega))
  refine aw_seq <| at_ <| ar (ro_lss s18_11 s17_11) rfl <| ae6 (up_m rfl s2_11) (up_m rfl s3_11) (up_m rfl s16_11) (up_m rfl s17_11) (up_m rfl s18_11) up_h ?_; clear s16_11 s17_11 s18_11 s2_11 s3_11; intro e_12 s2_12 s3_12 s16_12 s17_12 s18_12 s19_12
  refine then_n <| aw_seq <| aw_case s19_12 (fun hq_13 => ?_) (fun hq_13 => ?_)
  ·replace hq_13 := bt hq_13
   refine aw_skip <| then_n <| aw_seq <| aw_block <| aw_seq <| at_ <| ar (ro_eq (ro_ix y60_sl24 s16_12 s18_12 (by omega) (by first | (refine idx_map ?_; first | omega | (simp only [lnS]; omega)) | (refine idx_mapI ?_; first | omega | (simp only [lnS]; omega)) | (refine idx_mapN ?_; first | omega | (simp only [lnS]; omega)) | rfl)) (by simp only [pS, Value.cells, Nat.reduceAdd, swE, one_swE, app_m] <;> rfl)) rfl ?_
   refine ar (ro_eq (ro_ld_ref y60_ty47 rfl up_h (nle rfl)) (by simp only [pS, Value.cells, Nat.reduceAdd, swE, one_swE, app_m] <;> rfl)) rfl ?_
   refine al_stm (st_alloc qaz47 rfl ml_11) trivial rfl (fun m_14 hm_14 => ?_)
   have mon_11_14 := m_push hm_14 ml_11
   simp only [pS, Value.cells, Nat.reduceAdd, swE, one_swE, app_m] at mon_11_14
   have mo3_14 := m_push_o hm_14 mo3_11
   have mok_14 := m_push_o hm_14 mok_11
   have mo2_14 := m_push_o hm_14 mo2_11
   have mo1_14 := m_push_o hm_14 mo1_11
   have mo0_14 := m_push_o hm_14 mo0_11
   have ml_14 := m_push_l hm_14 ml_11
   clear hm_14 mo3_11 mok_11 mo2_11 mo1_11 mo0_11
   refine al_stm (st_store up_h (up_m rfl up_h) rfl rfl mon_11_14 qsz47 rfl (nle rfl)) trivial rfl (fun m_15 hm_15 => ?_)
   have mon_11_15 := m_set hm_15 mon_11_14
   simp only [pS, Value.cells, Nat.reduceAdd, swE, one_swE, app_m] at mon_11_15
   have mo3_15 := m_set_o hm_15 mo3_14 (by omega)
   have mok_15 := m_set_o hm_15 mok_14 (by omega)
   have mo2_15 := m_set_o hm_15 mo2_14 (by omega)
   have mo1_15 := m_set_o hm_15 mo1_14 (by omega)
   have mo0_15 := m_set_o hm_15 mo0_14 (by omega)
   have ml_15 := m_set_l hm_15 ml_14
   clear hm_15 mon_11_14 mo3_14 mok_14 mo2_14 mo1_14 mo0_14
   refine ae6 (up_n (up_m rfl (u2 rfl s2_12))) (up_n (up_m rfl (u2 rfl s3_12))) (up_n up_h) (up_n (up_m rfl (u2 rfl s16_12))) (up_n (up_m rfl (u2 rfl s17_12))) (up_n (up_m rfl (u2 rfl s18_12))) ?_; clear s16_12 s17_12 s18_12 s19_12 s2_12 s3_12; intro e_16 s2_16 s3_16 s5_16 s16_16 s17_16 s18_16
   refine then_n <| aw_seq <| at_ <| ar (ro_fld_ptr qfl47_2 rfl s5_16) rfl <| ar (ro_eq (ro_ld_ptr y60_ty40 rfl mon_11_15 up_h (nle rfl)) (by simp only [pS, Value.cells, Nat.reduceAdd, swE, one_swE, app_m] <;> rfl)) rfl ?_
   refine ar (ro_call (evL_cons up_h evL_nil) rfl (cloneI_ok _ (hf.at (by omega)) (hl.at i.toNat).2) qhcf52) rfl ?_
   refine ar (ro_fld_ptr qfl47_2 rfl (up_m rfl (u2 rfl s5_16))) rfl <| al_stm (st_store up_h (up_m rfl up_h) rfl rfl mon_11_15 qsz40 rfl (nle rfl)) trivial rfl (fun m_17 hm_17 => ?_)
   have mon_11_17 := m_set hm_17 mon_11_15
   simp only [pS, Value.cells, Nat.reduceAdd, swE, one_swE, app_m] at mon_11_17
   have mo3_17 := m_set_o hm_17 mo3_15 (by omega)
   have mok_17 := m_set_o hm_17 mok_15 (by omega)
   have mo2_17 := m_set_o hm_17 mo2_15 (by omega)
   have mo1_17 := m_set_o hm_17 mo1_15 (by omega)
   have mo0_17 := m_set_o hm_17 mo0_15 (by omega)
   have ml_17 := m_set_l hm_17 ml_15
   clear hm_17 mon_11_15 mo3_15 mok_15 mo2_15 mo1_15 mo0_15
   refine ae6 (up_n (u4 rfl s2_16)) (up_n (u4 rfl s3_16)) (up_n (u4 rfl s5_16)) (up_n (u4 rfl s16_16)) (up_n (u4 rfl s17_16)) (up_n (u4 rfl s18_16)) ?_; clear s16_16 s17_16 s18_16 s2_16 s3_16 s5_16; intro e_18 s2_18 s3_18 s5_18 s16_18 s17_18 s18_18
   refine then_n <| at_ <| ar (ro_fld_ptr qfl26_3 rfl s3_18) rfl <| ar (ro_eq (ro_ld_ptr y60_ty24 rfl mo3_17 up_h (nle rfl)) (by simp only [pS, Value.cells, Nat.reduceAdd, swE, one_swE, app_m] <;> rfl)) rfl ?_
   refine ar (ro_eq (ro_ld_ptr y60_ty47 rfl mon_11_17 (u2 rfl s5_18) (nle rfl)) (by simp only [pS, Value.cells, Nat.reduceAdd, swE, one_swE, app_m] <;> rfl)) rfl ?_
   refine ar (ro_lit y60_sl24 (evP_cons up_h evP_nil) rfl rfl rfl rfl) rfl <| al_stm (st_app y60_sl24 rfl ml_17 mok_17 (u2 rfl up_h) up_h (by rfl) (by simp only [lnS] <;> omega)) trivial rfl (fun m_19 hm_19 => ?_)
   have mon_11_1_19 := m_swap hm_19 ml_17
   simp only [pS, Value.cells, Nat.reduceAdd, swE, one_swE, app_m] at mon_11_1_19
   have mon_11_19 := m_swap_o hm_19 mon_11_17 (by omega)
   have mo3_19 := m_swap_o hm_19 mo3_17 (by omega)
   have mo2_19 := m_swap_o hm_19 mo2_17 (by omega)
   have mo1_19 := m_swap_o hm_19 mo1_17 (by omega)
   have mo0_19 := m_swap_o hm_19 mo0_17 (by omega)
   have ml_19 := m_swap_l hm_19 ml_17
   clear hm_19 mon_11_17 mo3_17 mok_17 mo2_17 mo1_17 mo0_17
   refine ar (ro_fld_ptr qfl26_3 rfl (up_m rfl (u4 rfl s3_18))) rfl <| al_stm (st_store_own up_h (up_m rfl up_h) mo3_19 mon_11_1_19 qsz24 (nle rfl)) trivial rfl (fun m_20 hm_20 => ?_)
   have mo3_20 := m_set hm_20 mo3_19
   simp only [pS, Value.cells, Nat.reduceAdd, swE, one_swE, app_m] at mo3_20
   have mon_11_1_20 := m_set_o hm_20 mon_11_1_19 (by omega)
   have mon_11_20 := m_set_o hm_20 mon_11_19 (by omega)
   have mo2_20 := m_set_o hm_20 mo2_19 (by decide)
   have mo1_20 := m_set_o hm_20 mo1_19 (by decide)
   have mo0_20 := m_set_o hm_20 mo0_19 (by decide)
   have ml_20 := m_set_l hm_20 ml_19
   clear hm_20 mon_11_1_19 mon_11_19 mo3_19 mo2_19 mo1_19 mo0_19
   refine ae5 (up_n (u2 rfl (u4 rfl s2_18))) (up_n (u2 rfl (u4 rfl s3_18))) (up_n (u2 rfl (u4 rfl s16_18))) (up_n (u2 rfl (u4 rfl s17_18))) (up_n (u2 rfl (u4 rfl s18_18))) ?_; clear s16_18 s17_18 s18_18 s2_18 s3_18 s5_18; intro e_21 s2_21 s3_21 s16_21 s17_21 s18_21
   refine block_n <| then_n <| at_ ?_
   (refine ar (ro_add' s18_21 ev_c ?_) rfl ?_; · (unfold In64; omega))
   refine ar (ro_move up_h) rfl <| ae5 (u2 rfl s2_21) (u2 rfl s3_21) (u2 rfl s16_21) (u2 rfl s17_21) up_h ?_; clear s16_21 s17_21 s18_21 s2_21 s3_21; intro e_22 s2_22 s3_22 s16_22 s17_22 s18_22
   refine then_n <| ⟨⟨_, _, _⟩, ⟨s18_22, (s2_22.trans s2_9.symm), (s3_22.trans s3_9.symm), (s16_22.trans s16_9.symm), (s17_22.trans s17_9.symm), mo3_20, mon_11_1_20, (mo2_20.trans mo2_10.symm), (mo1_20.trans mo1_10.symm), (mo0_20.trans mo0_10.symm), ⟨_, ml_20, by omega⟩, ?_⟩, ?_⟩
   ·(refine ⟨by omega, by omega, by omega, ?_⟩; rw [take_suc p1 (by omega), ← p3])
   ·((try dsimp only); omega)
  replace hq_13 := bf hq_13
  (have hx : xs = l.ss := (by rw [p3, List.take_of_length_le (by omega)]); clear p3; subst hx)
  refine aw_exit <| then_x <| then_x <| block_hit <| then_n <| aw_seq <| aw_freezeF 3 mo3_11 mok_11 (by omega) rfl (fun m_23 hm_23 => ?_)
  have mo3_23 := m_set hm_23 (m_set_o rfl mo3_11 (by omega))
  simp only [List.set_cons_zero, List.set_cons_succ] at mo3_23
  have mo2_23 := m_set_o hm_23 (m_set_o rfl mo2_11 (by omega)) (by decide)
  have mo1_23 := m_set_o hm_23 (m_set_o rfl mo1_11 (by omega)) (by decide)
  have mo0_23 := m_set_o hm_23 (m_set_o rfl mo0_11 (by omega)) (by decide)
  have ml_23 := m_set_l hm_23 (m_set_l rfl ml_11)
  clear hm_23 mo3_11 mok_11 mo2_11 mo1_11 mo0_11
  refine at_ <| ar (ro_eq (ro_ld_ptr y60_ty26 rfl mo3_23 s3_12 (nle rfl)) (by simp only [pS, Value.cells, Nat.reduceAdd, swE, one_swE, app_m] <;> rfl)) rfl ?_
  refine al_stm (st_storeO (up_m rfl s2_12) up_h rfl (oneL_c rfl (oneL_o mo2_23 (oneL_c rfl (oneL_c rfl oneL_nil)))) mo1_23 qsz26 rfl (nle rfl)) trivial rfl (fun m_24 hm_24 => ?_)
  have mo1_24 := m_set hm_24 mo1_23
  simp only [pS, Value.cells, Nat.reduceAdd, swE, one_swE, app_m] at mo1_24
  have mo3_24 := m_set_o hm_24 mo3_23 (by decide)
  have mo2_24 := m_set_o hm_24 mo2_23 (by decide)
  have mo0_24 := m_set_o hm_24 mo0_23 (by decide)
  have ml_24 := m_set_l hm_24 ml_23
  clear hm_24 mo3_23 mo2_23 mo1_23 mo0_23
  refine ae1 (up_n (up_m rfl s2_12)) ?_; clear s16_12 s17_12 s18_12 s19_12 s2_12 s3_12; intro e_25 s2_25
  refine then_n <| aw_ret <| retRowL (.inr rfl) (by kernel_rfl) mo2_24 (resV_cell s2_25 mo1_24 y60_ty26 (nle rfl) (by simp)) rfl ?_
  rfl
theorem Rgt.ful {l : Lin} (h : Rgt l) : Ful l := by
 have hjs := h.js
 have hn1 := h.n1
 have hn0 := h.n0
 refine ⟨fun hc => ?_, fun hc => ?_, fun t ht hc => ?_⟩
 ·rw [hc] at hjs; simp at hjs
 ·rw [hc] at hn0; simp at hn0
 ·obtain ⟨i, hi, rfl⟩ := List.mem_iff_getElem.1 ht
  have h1 := h.sa i hi
  have h2 : l.ss.getD i default = l.ss[i] := by rw [List.getD_eq_getElem?_getD, List.getElem?_eq_getElem hi]; rfl
  unfold swiE at h1
  rw [h2, hc] at h1
  split at h1
  ·cases h1
  ·split at h1
   ·cases h1
   ·rw [if_pos List.length_nil] at h1; cases h1
def nonL : Lin := ⟨ByteArray.empty, [], [], []⟩
def bitN (x : Nat) : Nat := if x = 0 then 0 else Nat.log2 x + 1
theorem bitN_of {x t s : Nat} (h1 : x / 2 ^ s < 2 ^ t) (h2 : 2 ^ (t - 1) ≤ x / 2 ^ s) (ht : 1 ≤ t) : bitN x = t + s := by
 have hs : 0 < 2 ^ s := Nat.pow_pos (by decide)
 have a1 : x < 2 ^ t * 2 ^ s := (Nat.div_lt_iff_lt_mul hs).1 h1
 have a2 : 2 ^ (t - 1) * 2 ^ s ≤ x := (Nat.le_div_iff_mul_le hs).1 h2
 rw [← Nat.pow_add] at a1 a2
 have hx : x ≠ 0 := by
  have : 0 < 2 ^ (t - 1 + s) := Nat.pow_pos (by decide)
  omega
 have b1 := (Nat.log2_lt hx).2 a1
 have b2 := (Nat.le_log2 hx).2 a2
 unfold bitN
 rw [if_neg hx]
 omega
theorem bitN_8 : ∀ i : Nat, i < 256 → i ≠ 0 → i < 2 ^ bitN i ∧ 2 ^ (bitN i - 1) ≤ i ∧ 1 ≤ bitN i := by
 intro i hi h0
 unfold bitN
 rw [if_neg h0]
 exact ⟨Nat.lt_log2_self, Nat.log2_self_le h0, by omega⟩
structure Hal (y1 y0 u n : Int) : Prop where
 hy1 : 2147483648 ≤ y1 ∧ y1 < 4294967296
 hy0 : 0 ≤ y0 ∧ y0 < 4294967296
 hu0 : 0 ≤ u
 hu1 : u < y1 * 4294967296 + y0
 hn0 : 0 ≤ n ∧ n < 4294967296
def halQ (y1 y0 u n : Int) : Int := (u * 4294967296 + n) / (y1 * 4294967296 + y0)
theorem Hal.q {y1 y0 u n : Int} (h : Hal y1 y0 u n) : 0 ≤ halQ y1 y0 u n ∧ halQ y1 y0 u n < 4294967296 := by
 obtain ⟨a, b, c, d, e⟩ := h
 refine ⟨Int.ediv_nonneg (by omega) (by omega), ?_⟩
 unfold halQ
 rw [Int.ediv_lt_iff_lt_mul (by omega)]
 omega
theorem hal_mul (q y1 y0 : Int) : q * (y1 * 4294967296 + y0) = q * y1 * 4294967296 + q * y0 := by rw [Int.mul_add, ← Int.mul_assoc]
theorem Hal.less {y1 y0 u n q r : Int} (h : Hal y1 y0 u n) (h1 : q * y1 + r = u) (hq : halQ y1 y0 u n ≤ q) (hc : 4294967296 ≤ q ∨ 4294967296 * r + n < q * y0) : halQ y1 y0 u n ≤ q - 1 := by
 have hb := h.q
 rcases hc with hc | hc
 ·omega
 ·obtain ⟨a, b, c, d, e⟩ := h
  have h2 : ¬ q ≤ halQ y1 y0 u n := by
   unfold halQ
   rw [Int.le_ediv_iff_mul_le (by omega), hal_mul]
   omega
  omega
theorem Hal.done {y1 y0 u n q r : Int} (h : Hal y1 y0 u n) (h1 : q * y1 + r = u) (hq : halQ y1 y0 u n ≤ q) (hc : q * y0 ≤ 4294967296 * r + n) : q = halQ y1 y0 u n := by
 obtain ⟨a, b, c, d, e⟩ := h
 have h2 : q ≤ halQ y1 y0 u n := by
  unfold halQ
  rw [Int.le_ediv_iff_mul_le (by omega), hal_mul]
  omega
 omega
theorem Hal.far {y1 y0 u n q r : Int} (h : Hal y1 y0 u n) (h1 : q * y1 + r = u) (hq : halQ y1 y0 u n ≤ q) (hq2 : q ≤ 4294967296) (hr : 4294967296 ≤ r) : q = halQ y1 y0 u n := by
 have hb := h.q
 refine h.done h1 hq ?_
 have h2 := h.hy0
 have h3 := h.hn0
 have h4 := Int.mul_le_mul hq2 (show y0 ≤ 4294967295 by omega) (by omega) (by omega)
 omega
theorem Hal.first {y1 y0 u n : Int} (h : Hal y1 y0 u n) : u / y1 * y1 + (u - u / y1 * y1) = u ∧ halQ y1 y0 u n ≤ u / y1 ∧ u / y1 ≤ 4294967297 ∧ 0 ≤ u - u / y1 * y1 ∧ u - u / y1 * y1 < y1 := by
 obtain ⟨a, b, c, d, e⟩ := h
 have hm := Int.mul_ediv_add_emod u y1
 have hm2 : u / y1 * y1 + u % y1 = u := by rw [Int.mul_comm]; exact hm
 have h1 := Int.emod_nonneg u (show y1 ≠ 0 by omega)
 have h2 := Int.emod_lt_of_pos u (show 0 < y1 by omega)
 refine ⟨by omega, ?_, ?_, by omega, by omega⟩
 ·rw [Int.le_ediv_iff_mul_le (by omega)]
  have h3 : halQ y1 y0 u n * (y1 * 4294967296 + y0) ≤ u * 4294967296 + n := by
   unfold halQ; exact Int.ediv_mul_le _ (by omega)
  have h4 : 0 ≤ halQ y1 y0 u n := by unfold halQ; exact Int.ediv_nonneg (by omega) (by omega)
  have h5 := Int.mul_nonneg h4 b.1
  rw [hal_mul] at h3
  omega
 ·have h3 : u / y1 < 4294967298 := by
   rw [Int.ediv_lt_iff_lt_mul (by omega)]
   omega
  omega
end Go.Proofs.Ytjhcfpdgldpicaa
