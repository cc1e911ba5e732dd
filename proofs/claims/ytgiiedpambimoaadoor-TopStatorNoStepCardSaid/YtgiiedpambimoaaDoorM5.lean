/- Texts of this claim, one behind the other: lemmas for the statement. -/
import Derived.Test.YtgiiedpambimoaaDoorM4
/- Plain facts of chapter 3 on pulses: what is left, and how near. No program in sight. -/
namespace Go.Proofs.YtgiiedpambimoaaDoor
open Go Go.RowKit Go.Proofs
set_option linter.unusedSimpArgs false
set_option linter.unusedVariables false

theorem w64 {n : Int} (h1 : -9000000000000000000 ≤ n) (h2 : n ≤ 9000000000000000000) : wrap64 n = n := by unfold wrap64; omega
theorem nearL_form (s : Int) (v : V2) : ∀ (l : List (Int × V2)) (b : Int) (z : V2), (nearL s v l b z = (b, z)) ∨ ∃ k x, (k, x) ∈ l ∧ nearL s v l b z = (k, subW v (byW x s))
  | [], b, z => .inl rfl
  | (k, x) :: r, b, z => by
    simp only [nearL]
    split
    · rcases nearL_form s v r k (subW v (byW x s)) with h | ⟨k', x', h1, h2⟩
      · exact .inr ⟨k, x, by simp, h⟩
      · exact .inr ⟨k', x', by simp [h1], h2⟩
    · rcases nearL_form s v r b z with h | ⟨k', x', h1, h2⟩
      · exact .inl h
      · exact .inr ⟨k', x', by simp [h1], h2⟩
theorem nearL_min (s : Int) (v : V2) : ∀ (l : List (Int × V2)) (b : Int) (z : V2), normW (nearL s v l b z).2 ≤ normW z ∧ ∀ k x, (k, x) ∈ l → normW (nearL s v l b z).2 ≤ normW (subW v (byW x s))
  | [], b, z => ⟨Int.le_refl _, fun _ _ h => by simp at h⟩
  | (k, x) :: r, b, z => by
    simp only [nearL]
    split
    · rename_i hlt
      obtain ⟨h1, h2⟩ := nearL_min s v r k (subW v (byW x s))
      refine ⟨by omega, fun k' x' hm => ?_⟩
      simp only [List.mem_cons, Prod.mk.injEq] at hm
      rcases hm with ⟨rfl, rfl⟩ | hm
      · exact h1
      · exact h2 k' x' hm
    · rename_i hlt
      obtain ⟨h1, h2⟩ := nearL_min s v r b z
      refine ⟨h1, fun k' x' hm => ?_⟩
      simp only [List.mem_cons, Prod.mk.injEq] at hm
      rcases hm with ⟨rfl, rfl⟩ | hm
      · omega
      · exact h2 k' x' hm
theorem stT_mem {k : Int} {x : V2} (h : (k, x) ∈ stT) : (0 ≤ k ∧ k ≤ 7) ∧ x = stA.getD k.toNat default ∧ x ∈ stA := by
  simp only [stT, List.mem_cons, List.not_mem_nil, or_false, Prod.mk.injEq] at h
  rcases h with ⟨rfl, rfl⟩ | ⟨rfl, rfl⟩ | ⟨rfl, rfl⟩ | ⟨rfl, rfl⟩ | ⟨rfl, rfl⟩ | ⟨rfl, rfl⟩ | ⟨rfl, rfl⟩ | ⟨rfl, rfl⟩ <;> decide
theorem stA_stT {u : V2} (h : u ∈ stA) : ∃ k, (k, u) ∈ stT := by
  simp only [stA, List.mem_cons, List.not_mem_nil, or_false] at h
  rcases h with rfl | rfl | rfl | rfl | rfl | rfl | rfl | rfl
  · exact ⟨0, by decide⟩
  · exact ⟨1, by decide⟩
  · exact ⟨2, by decide⟩
  · exact ⟨3, by decide⟩
  · exact ⟨4, by decide⟩
  · exact ⟨5, by decide⟩
  · exact ⟨6, by decide⟩
  · exact ⟨7, by decide⟩
theorem stA_bd {u : V2} (h : u ∈ stA) : Bd 1 u := by
  simp only [stA, List.mem_cons, List.not_mem_nil, or_false] at h
  rcases h with rfl | rfl | rfl | rfl | rfl | rfl | rfl | rfl <;> exact ⟨⟨by decide, by decide⟩, by decide, by decide⟩
theorem step_eq {v x : V2} {s : Int} (hv : Bd 1000000 v) (hx : x ∈ stA) (hs : 0 ≤ s ∧ s ≤ 100000) : subW v (byW x s) = subV v (byV s x) ∧ Bd 1100000 (subV v (byV s x)) := by
  obtain ⟨⟨a1, a2⟩, a3, a4⟩ := hv
  simp only [stA, List.mem_cons, List.not_mem_nil, or_false] at hx
  rcases hx with rfl | rfl | rfl | rfl | rfl | rfl | rfl | rfl <;> simp only [subW, byW, subV, byV, Int.mul_zero, Int.mul_one, Int.mul_neg] <;>
    refine ⟨?_, ⟨by simp only; omega, by simp only; omega⟩, by simp only; omega, by simp only; omega⟩ <;> ext <;> simp only <;> unfold wrap64 <;> omega
theorem norm_eq {v : V2} (h : Bd 1100000 v) : normW v = sqV v := by
  have m1 := mulBd h.1 h.1
  have m2 := mulBd h.1 h.2
  have m3 := mulBd h.2 h.2
  unfold normW sqV
  rw [w64 (n := v.1 * v.1) (by omega) (by omega), w64 (n := v.1 * v.2) (by omega) (by omega), w64 (n := v.2 * v.2) (by omega) (by omega), w64 (n := v.1 * v.1 - v.1 * v.2) (by omega) (by omega), w64 (by omega) (by omega)]
/-- The nearest state: which, what is left, and that none is nearer. -/
theorem near_one {v : V2} {s : Int} (hv : Bd 1000000 v) (hs : 0 ≤ s ∧ s ≤ 100000) : (0 ≤ (nearW s v).1 ∧ (nearW s v).1 ≤ 7) ∧ (nearW s v).2 = subV v (byV s (stA.getD (nearW s v).1.toNat default)) ∧ ∀ u ∈ stA, sqV (nearW s v).2 ≤ sqV (subV v (byV s u)) := by
  have form : (0 ≤ (nearW s v).1 ∧ (nearW s v).1 ≤ 7) ∧ (nearW s v).2 = subV v (byV s (stA.getD (nearW s v).1.toNat default)) ∧ Bd 1100000 (nearW s v).2 := by
    unfold nearW
    rcases nearL_form s v stT 0 v with h | ⟨k, x, hm, h⟩
    · rw [h]
      refine ⟨⟨Int.le_refl 0, by show (0 : Int) ≤ 7; decide⟩, ?_, hv.mono (by decide)⟩
      show v = subV v (byV s (0, 0))
      simp [subV, byV]
    · rw [h]
      obtain ⟨h1, h2, h3⟩ := stT_mem hm
      obtain ⟨e1, e2⟩ := step_eq hv h3 hs
      exact ⟨h1, by simp only; rw [e1, ← h2], by simp only; rw [e1]; exact e2⟩
  refine ⟨form.1, form.2.1, fun u hu => ?_⟩
  obtain ⟨k, hk⟩ := stA_stT hu
  have h := (nearL_min s v stT 0 v).2 k u hk
  obtain ⟨e1, e2⟩ := step_eq hv hu hs
  rw [e1, norm_eq e2] at h
  have e3 := norm_eq form.2.2
  unfold nearW at e3 ⊢
  rw [e3] at h
  exact h
theorem addW_eq {u v : V2} (hu : Bd 500000 u) (hv : Bd 100000 v) : addW u v = addV u v := by
  obtain ⟨⟨a1, a2⟩, a3, a4⟩ := hu
  obtain ⟨⟨b1, b2⟩, b3, b4⟩ := hv
  unfold addW addV
  rw [w64 (by omega) (by omega), w64 (by omega) (by omega)]
/-- The states of all pulses, and what is left behind each, one by one. -/
theorem modGo_at (s : Int) : ∀ (cs : List V2) (l : V2) (i : Nat), i < cs.length → (modGo s l cs).getD i default = nearW s (addW (if i = 0 then l else ((modGo s l cs).getD (i - 1) default).2) (cs.getD i default))
  | [], _, _, h => by simp at h
  | c :: cs, l, 0, _ => rfl
  | c :: cs, l, i + 1, h => by
    have ih := modGo_at s cs (nearW s (addW l c)).2 i (by simpa using h)
    have e1 : (modGo s l (c :: cs)).getD (i + 1) default = (modGo s (nearW s (addW l c)).2 cs).getD i default := rfl
    have e2 : (if i + 1 = 0 then l else ((modGo s l (c :: cs)).getD (i + 1 - 1) default).2) = (if i = 0 then (nearW s (addW l c)).2 else ((modGo s (nearW s (addW l c)).2 cs).getD (i - 1) default).2) := by
      rw [if_neg (Nat.succ_ne_zero i)]
      cases i with
      | zero => rfl
      | succ i => rw [if_neg (Nat.succ_ne_zero i)]; rfl
    rw [e1, ih, e2]; rfl
def lfP (s : Int) (cs : List V2) (i : Nat) : V2 := if i = 0 then (0, 0) else (moL s cs).getD (i - 1) default
theorem moL_at (s : Int) (cs : List V2) (i : Nat) : (moL s cs).getD i default = ((modGo s (0, 0) cs).getD i default).2 := by
  simp only [moL, List.getD_eq_getElem?_getD, List.getElem?_map]
  cases (modGo s (0, 0) cs)[i]? <;> rfl
theorem moS_at (s : Int) (cs : List V2) (i : Nat) : (moS s cs).getD i default = ((modGo s (0, 0) cs).getD i default).1 := by
  simp only [moS, List.getD_eq_getElem?_getD, List.getElem?_map]
  cases (modGo s (0, 0) cs)[i]? <;> rfl
/-- One pulse. -/
theorem pulse {s : Int} {cs : List V2} (hs : 1 ≤ s ∧ s ≤ 1000) (hc : ∀ v ∈ cs, Bd 1000 v) : ∀ i : Nat, i < cs.length → i ≤ 60 → Bd (2000 * i) (lfP s cs i) ∧ (0 ≤ (moS s cs).getD i default ∧ (moS s cs).getD i default ≤ 7) ∧
    (moL s cs).getD i default = subV (addV (lfP s cs i) (cs.getD i default)) (byV s (stA.getD ((moS s cs).getD i default).toNat default)) ∧ Bd (2000 * ((i : Int) + 1)) ((moL s cs).getD i default) ∧
    ∀ u ∈ stA, sqV ((moL s cs).getD i default) ≤ sqV (subV (addV (lfP s cs i) (cs.getD i default)) (byV s u)) := by
  intro i
  induction i with
  | zero =>
    intro hi _
    have hb : Bd 1000 (cs.getD 0 default) := Bd.getD hc (by decide) 0
    have e0 : addW (0, 0) (cs.getD 0 default) = addV (0, 0) (cs.getD 0 default) := addW_eq ⟨⟨by decide, by decide⟩, by decide, by decide⟩ (hb.mono (by decide))
    have hv : Bd 1000000 (addV (0, 0) (cs.getD 0 default)) := (add_bd (M := 0) ⟨⟨by decide, by decide⟩, by decide, by decide⟩ hb).mono (by decide)
    have h1 := modGo_at s cs (0, 0) 0 hi
    rw [if_pos rfl, e0] at h1
    obtain ⟨n1, n2, n3⟩ := near_one hv (s := s) (by omega)
    rw [moL_at, moS_at, h1]
    refine ⟨show Bd (2000 * ((0 : Nat) : Int)) (0, 0) from ⟨⟨by simp, by simp⟩, by simp, by simp⟩, n1, n2, ?_, n3⟩
    rw [n2]
    have hst : Bd 1 (stA.getD (nearW s (addV (0, 0) (cs.getD 0 default))).1.toNat default) := Bd.getD (fun u hu => stA_bd hu) (by decide) _
    generalize stA.getD (nearW s (addV (0, 0) (cs.getD 0 default))).1.toNat default = t at hst
    have m1 := mulBd (A := 1000) (a := s) (by omega) hst.1
    have m2 := mulBd (A := 1000) (a := s) (by omega) hst.2
    obtain ⟨⟨b1, b2⟩, b3, b4⟩ := hb
    refine ⟨⟨?_, ?_⟩, ?_, ?_⟩ <;> simp only [subV, addV, byV] <;> omega
  | succ i ih =>
    intro hi h60
    obtain ⟨_, _, _, g4, _⟩ := ih (by omega) (by omega)
    have hb : Bd 1000 (cs.getD (i + 1) default) := Bd.getD hc (by decide) _
    have el : lfP s cs (i + 1) = (moL s cs).getD i default := by unfold lfP; rw [if_neg (by omega)]; rfl
    have hl : Bd (2000 * ((i : Int) + 1)) (lfP s cs (i + 1)) := by rw [el]; exact g4
    have e0 : addW (lfP s cs (i + 1)) (cs.getD (i + 1) default) = addV (lfP s cs (i + 1)) (cs.getD (i + 1) default) := addW_eq (hl.mono (by omega)) (hb.mono (by decide))
    have hv : Bd 1000000 (addV (lfP s cs (i + 1)) (cs.getD (i + 1) default)) := (add_bd hl hb).mono (by omega)
    have h1 := modGo_at s cs (0, 0) (i + 1) hi
    rw [if_neg (by omega), Nat.add_sub_cancel, ← moL_at, ← el, e0] at h1
    obtain ⟨n1, n2, n3⟩ := near_one hv (s := s) (by omega)
    rw [moL_at, moS_at, h1]
    refine ⟨hl.mono (by omega), n1, n2, ?_, n3⟩
    rw [n2]
    have hst : Bd 1 (stA.getD (nearW s (addV (lfP s cs (i + 1)) (cs.getD (i + 1) default))).1.toNat default) := Bd.getD (fun u hu => stA_bd hu) (by decide) _
    generalize stA.getD (nearW s (addV (lfP s cs (i + 1)) (cs.getD (i + 1) default))).1.toNat default = t at hst
    have m1 := mulBd (A := 1000) (a := s) (by omega) hst.1
    have m2 := mulBd (A := 1000) (a := s) (by omega) hst.2
    generalize lfP s cs (i + 1) = l at *
    obtain ⟨⟨b1, b2⟩, b3, b4⟩ := hb
    obtain ⟨⟨c1, c2⟩, c3, c4⟩ := hl
    refine ⟨⟨?_, ?_⟩, ?_, ?_⟩ <;> simp only [subV, addV, byV] <;> omega
end Go.Proofs.YtgiiedpambimoaaDoor

/- The law of chapter 3 on orders and samples. The variables of the package hold what the text lays. -/
namespace Go.Proofs.YtgiiedpambimoaaDoor
open Go Go.RowKit Go.Proofs
set_option linter.unusedSimpArgs false
set_option linter.unusedVariables false
theorem h10_sl46 : SlIs Tryd.prog 46 3 1 8 (.int .i64 0) := ⟨by kernel_rfl, by kernel_rfl, by kernel_rfl⟩
theorem h10_ty3 : TyIs Tryd.prog 3 false 1 := ⟨by kernel_rfl, by kernel_rfl⟩
set_option maxRecDepth 100000 in
set_option maxHeartbeats 1000000 in
theorem bInts_ok (a b : List Int) (ha : a.length ≤ 1000000000) (hb : b.length ≤ 1000000000) : FnOk Tryd.prog 46 [.row 1 (a.map iE), .row 1 (b.map iE)] (fun q => q = oA (decide (a = b))) := by
  refine fnOk_of (fn := Tryd.f46) 26 (by kernel_rfl) rfl (by kernel_rfl) (Nat.le_of_ble_eq_true rfl) ?_
  intro e_0 m_0 hA hm_0
  have s0_0 : evA e_0 (.tmp 0) = _ := hA 0 _ rfl
  have s1_0 : evA e_0 (.tmp 1) = _ := hA 1 _ rfl
  have ml_0 : m_0.length = 0 := by rw [hm_0]; rfl
  clear hA hm_0
  refine aw_seq ?_
  refine aw_text (by kernel_rfl) ?_
  refine al_ro' (ro_assign ev_c) trivial rfl ?_
  refine al_end (fun e_1 he_1 => ?_)
  have s0_1 := ef 0 he_1 (up_m rfl s0_0)
  have s1_1 := ef 1 he_1 (up_m rfl s1_0)
  clear he_1 s0_0 s1_0
  refine then_n ?_
  refine aw_seq ?_
  refine aw_seq ?_
  refine aw_text (by kernel_rfl) ?_
  refine al_ro' (ro_move s0_1) trivial rfl ?_
  refine al_ro' (ro_eq (ro_len_row up_h rfl h10_sl46.1) (by first | (simp only [lnS] <;> rfl) | rfl)) trivial rfl ?_
  refine al_ro' (ro_move (u2 rfl s1_1)) trivial rfl ?_
  refine al_ro' (ro_eq (ro_len_row up_h rfl h10_sl46.1) (by first | (simp only [lnS] <;> rfl) | rfl)) trivial rfl ?_
  refine al_ro' (ro_neq (u2 rfl up_h) up_h) trivial rfl ?_
  refine al_end (fun e_2 he_2 => ?_)
  have s0_2 := ef 0 he_2 (up_m rfl (u4 rfl s0_1))
  have s1_2 := ef 1 he_2 (up_m rfl (u4 rfl s1_1))
  have s10_2 := ef 10 he_2 up_h
  clear he_2 s0_1 s1_1
  refine then_n ?_
  refine aw_case s10_2 (fun hq_3 => ?_) (fun hq_3 => ?_)
  · (first | replace hq_3 := bnt hq_3 | replace hq_3 := bnf hq_3 | replace hq_3 := bt hq_3 | replace hq_3 := bf hq_3 | replace hq_3 := bt' hq_3 | replace hq_3 := bf' hq_3 | skip)
    first
    | (cases hq_3; done) | (exfalso; omega)
    | (
       refine aw_seq ?_
       refine aw_text (by kernel_rfl) ?_
       refine al_ro' (ro_assign ev_c) trivial rfl ?_
       refine al_end (fun e_4 he_4 => ?_)
       have s4_4 := ef 4 he_4 up_h
       clear he_4 s0_2 s10_2 s1_2
       refine then_n ?_
       refine aw_ret ?_
       refine then_r ?_
       refine ret1 (.inr rfl) (by kernel_rfl) (resV_tmp s4_4) (.ro _ rfl) ?_
       clear s4_4  ml_0
       (have hne : ¬ a = b := (fun hc => absurd (congrArg List.length hc) (by omega)); rw [decide_eq_false hne]))
  · (first | replace hq_3 := bnt hq_3 | replace hq_3 := bnf hq_3 | replace hq_3 := bt hq_3 | replace hq_3 := bf hq_3 | replace hq_3 := bt' hq_3 | replace hq_3 := bf' hq_3 | skip)
    first
    | (cases hq_3; done) | (exfalso; omega)
    | (
       (have hl : a.length = b.length := (by omega))
       refine aw_skip ?_
       refine then_n ?_
       refine aw_seq ?_
       refine aw_seq ?_
       refine aw_text (by kernel_rfl) ?_
       refine al_ro' (ro_assign ev_c) trivial rfl ?_
       refine al_end (fun e_5 he_5 => ?_)
       have s0_5 := ef 0 he_5 (up_m rfl s0_2)
       have s1_5 := ef 1 he_5 (up_m rfl s1_2)
       have s5_5 := ef 5 he_5 up_h
       clear he_5 s0_2 s10_2 s1_2
       refine then_n ?_
       refine aw_block ?_
       refine aw_loop (S := Int) (fun i e mem => (evA e (.tmp 5) = .v (.int .i64 i)) ∧ (evA e (.tmp 0) = evA e_5 (.tmp 0)) ∧ (evA e (.tmp 1) = evA e_5 (.tmp 1)) ∧ (mem.length = 0) ∧ ((0 ≤ i ∧ i ≤ a.length ∧ a.length = b.length ∧ ∀ j : Nat, j < i → a.getD j default = b.getD j default))) (fun i => (a.length - i).toNat) _ ⟨s5_5, rfl, rfl, ml_0, ?_⟩ ?_
       · (refine ⟨by omega, by omega, by omega, fun j hj => absurd hj (by omega)⟩)
       · rintro i e_6 m_6 ⟨s5_6, k0_6, k1_6, ml_6, hinv⟩
         have s0_6 := k0_6.trans s0_5
         have s1_6 := k1_6.trans s1_5
         (have hl := hinv.2.2.1)
         refine aw_seq ?_
         refine aw_seq ?_
         refine aw_text (by kernel_rfl) ?_
         refine al_ro' (ro_move s5_6) trivial rfl ?_
         refine al_ro' (ro_move (up_m rfl s0_6)) trivial rfl ?_
         refine al_ro' (ro_eq (ro_len_row up_h rfl h10_sl46.1) (by first | (simp only [lnS] <;> rfl) | rfl)) trivial rfl ?_
         refine al_ro' (ro_lss (u2 rfl up_h) up_h) trivial rfl ?_
         refine al_end (fun e_7 he_7 => ?_)
         have s0_7 := ef 0 he_7 (u4 rfl s0_6)
         have s1_7 := ef 1 he_7 (u4 rfl s1_6)
         have s5_7 := ef 5 he_7 (u4 rfl s5_6)
         have s14_7 := ef 14 he_7 up_h
         clear he_7 s0_6 s1_6 s5_6
         refine then_n ?_
         refine aw_case s14_7 (fun hq_8 => ?_) (fun hq_8 => ?_)
         · (first | replace hq_8 := bnt hq_8 | replace hq_8 := bnf hq_8 | replace hq_8 := bt hq_8 | replace hq_8 := bf hq_8 | replace hq_8 := bt' hq_8 | replace hq_8 := bf' hq_8 | skip)
           first
           | (cases hq_8; done) | (exfalso; omega)
           | (
              (have hx := hinv.2.1)
              refine aw_skip ?_
              refine then_n ?_
              refine aw_seq ?_
              refine aw_block ?_
              refine aw_seq ?_
              refine aw_draw 9 (by kernel_rfl) (by kernel_rfl) (by kernel_rfl) (by kernel_rfl) ?_
              refine ds_ro' (ro_move s0_7) trivial rfl ?_
              refine ds_ro' (ro_move (up_m rfl s5_7)) trivial rfl ?_
              refine ds_ro' (ro_eq (ro_ix h10_sl46 (up_m rfl up_h) up_h (by first | decide | omega | (simp <;> omega)) (by first | (refine idx_map ?_; first | omega | (simp only [lnS]; omega)) | (refine idx_mapI ?_; first | omega | (simp only [lnS]; omega)) | (refine idx_mapN ?_; first | omega | (simp only [lnS]; omega)) | rfl)) (by first | (simp only [packA_t, packA_f, iE, bE, setAt, cellsA, Value.cells, map_vc, map_vn, Nat.reduceAdd, qS] <;> rfl) | rfl)) trivial rfl ?_
              refine ds_ro' (ro_eq (ro_ld_ref h10_ty3 rfl up_h (by first | exact Nat.le_of_ble_eq_true rfl | omega | (simp only [lnS] <;> omega) | (simp <;> omega))) (by first | (simp only [packA_t, packA_f, iE, bE, setAt, cellsA, Value.cells, map_vc, map_vn, Nat.reduceAdd, qS] <;> rfl) | rfl)) trivial rfl ?_
              refine ds_ro' (ro_move (u4 rfl s1_7)) trivial rfl ?_
              refine ds_ro' (ro_move (up_m rfl (u4 rfl s5_7))) trivial rfl ?_
              refine ds_ro' (ro_eq (ro_ix h10_sl46 (up_m rfl up_h) up_h (by first | decide | omega | (simp <;> omega)) (by first | (refine idx_map ?_; first | omega | (simp only [lnS]; omega)) | (refine idx_mapI ?_; first | omega | (simp only [lnS]; omega)) | (refine idx_mapN ?_; first | omega | (simp only [lnS]; omega)) | rfl)) (by first | (simp only [packA_t, packA_f, iE, bE, setAt, cellsA, Value.cells, map_vc, map_vn, Nat.reduceAdd, qS] <;> rfl) | rfl)) trivial rfl ?_
              refine ds_ro' (ro_eq (ro_ld_ref h10_ty3 rfl up_h (by first | exact Nat.le_of_ble_eq_true rfl | omega | (simp only [lnS] <;> omega) | (simp <;> omega))) (by first | (simp only [packA_t, packA_f, iE, bE, setAt, cellsA, Value.cells, map_vc, map_vn, Nat.reduceAdd, qS] <;> rfl) | rfl)) trivial rfl ?_
              refine ds_ro' (ro_neq (u4 rfl up_h) up_h) trivial rfl ?_
              refine ds_nil ?_
              refine al_end (fun e_9 he_9 => ?_)
              have s0_9 := ef 0 he_9 (up_m rfl (u8 rfl s0_7))
              have s1_9 := ef 1 he_9 (up_m rfl (u8 rfl s1_7))
              have s5_9 := ef 5 he_9 (up_m rfl (u8 rfl s5_7))
              have s25_9 := ef 25 he_9 up_h
              clear he_9 s0_7 s14_7 s1_7 s5_7
              refine then_n ?_
              refine aw_case s25_9 (fun hq_10 => ?_) (fun hq_10 => ?_)
              · (first | replace hq_10 := bnt hq_10 | replace hq_10 := bnf hq_10 | replace hq_10 := bt hq_10 | replace hq_10 := bf hq_10 | replace hq_10 := bt' hq_10 | replace hq_10 := bf' hq_10 | skip)
                first
                | (cases hq_10; done) | (exfalso; omega)
                | (
                   refine aw_seq ?_
                   refine aw_text (by kernel_rfl) ?_
                   refine al_ro' (ro_assign ev_c) trivial rfl ?_
                   refine al_end (fun e_11 he_11 => ?_)
                   have s4_11 := ef 4 he_11 up_h
                   clear he_11 s0_9 s1_9 s25_9 s5_9
                   refine then_n ?_
                   refine aw_ret ?_
                   refine block_r ?_
                   refine then_r ?_
                   refine then_r ?_
                   refine block_r ?_
                   refine then_r ?_
                   refine ret1 (.inr rfl) (by kernel_rfl) (resV_tmp s4_11) (.ro _ rfl) ?_
                   clear s4_11  ml_6
                   (have hne : ¬ a = b := (fun hc => absurd (congrArg (fun l => l.getD i.toNat default) hc) (by assumption)); rw [decide_eq_false hne]))
              · (first | replace hq_10 := bnt hq_10 | replace hq_10 := bnf hq_10 | replace hq_10 := bt hq_10 | replace hq_10 := bf hq_10 | replace hq_10 := bt' hq_10 | replace hq_10 := bf' hq_10 | skip)
                first
                | (cases hq_10; done) | (exfalso; omega)
                | (
                   refine aw_skip ?_
                   refine block_n ?_
                   refine then_n ?_
                   refine aw_text (by kernel_rfl) ?_
                   refine al_ro' (ro_move s5_9) trivial rfl ?_
                   first | (refine al_ro' (ro_add' up_h ev_c ?_) trivial rfl ?_; · (unfold In64; omega)) | refine al_ro' (ro_add up_h ev_c) trivial rfl ?_
                   refine al_ro' (ro_assign up_h) trivial rfl ?_
                   refine al_end (fun e_12 he_12 => ?_)
                   have s0_12 := ef 0 he_12 (up_m rfl (u2 rfl s0_9))
                   have s1_12 := ef 1 he_12 (up_m rfl (u2 rfl s1_9))
                   have s5_12 := ef 5 he_12 up_h
                   clear he_12 s0_9 s1_9 s25_9 s5_9
                   refine then_n ?_
                   refine ⟨_, ⟨s5_12, (s0_12.trans s0_5.symm), (s1_12.trans s1_5.symm), ml_6, ?_⟩, ?_⟩
                   · (obtain ⟨p1, p2, p3, p4⟩ := hinv; refine ⟨by omega, by omega, p3, fun j hj => ?_⟩; by_cases hji : j = i.toNat; (rw [hji]; assumption); exact p4 j (by omega))
                   · ((try dsimp only); omega)))
         · (first | replace hq_8 := bnt hq_8 | replace hq_8 := bnf hq_8 | replace hq_8 := bt hq_8 | replace hq_8 := bf hq_8 | replace hq_8 := bt' hq_8 | replace hq_8 := bf' hq_8 | skip)
           first
           | (cases hq_8; done) | (exfalso; omega)
           | (
              refine aw_exit ?_
              refine then_x ?_
              refine then_x ?_
              refine block_hit ?_
              refine then_n ?_
              refine aw_seq ?_
              refine aw_text (by kernel_rfl) ?_
              refine al_ro' (ro_assign ev_c) trivial rfl ?_
              refine al_end (fun e_13 he_13 => ?_)
              have s4_13 := ef 4 he_13 up_h
              clear he_13 s0_7 s14_7 s1_7 s5_7
              refine then_n ?_
              refine aw_ret ?_
              refine ret1 (.inr rfl) (by kernel_rfl) (resV_tmp s4_13) (.ro _ rfl) ?_
              clear s4_13  ml_6
              (obtain ⟨p1, p2, p3, p4⟩ := hinv; refine congrArg oA ?_; simp; exact list_ext' (by omega) fun j hj => p4 j (by omega))))
theorem sameI_ok (l : List Int) (h : l.length ≤ 1000000000) : FnOk Tryd.prog 46 [.row 1 (l.map iE), .row 1 (l.map iE)] (fun q => q = oA true) :=
  (bInts_ok l l h h).mono fun q h => h.trans (by simp)
end Go.Proofs.YtgiiedpambimoaaDoor

/- The law of chapter 3: pulses drive as was wanted. The variables of the package hold what the text lays. -/
namespace Go.Proofs.YtgiiedpambimoaaDoor
open Go Go.RowKit Go.Proofs
set_option linter.unusedSimpArgs false
set_option linter.unusedVariables false
theorem h13_az24 : (Tryd.prog.info? 24).bind (·.zero) = some (.agg #[.int .i64 0, .int .i64 0]) := by kernel_rfl
theorem h13_az48 : (Tryd.prog.info? 48).bind (·.zero) = some (.agg #[.slice none 0 0, .slice none 0 0]) := by kernel_rfl
theorem h13_bz24 : (Tryd.prog.info? 24).bind (·.zero) = some (.agg #[.int .i64 0, .int .i64 0]) := by kernel_rfl
theorem h13_bu24 : Tryd.prog.underlying 24 = some (.struct (fsOf Tryd.prog 24)) := by kernel_rfl
theorem h13_bp24 : ∀ w, ((fsOf Tryd.prog 24).mapM fun f => Prod.mk f.offset <$> sizeOf f.type : Sem (Array (Nat × Nat))).run Tryd.prog w = .ok (#[(0, 1), (1, 1)]) w := fun _ => by kernel_rfl
theorem h13_fl24_0 : FldIs Tryd.prog 24 0 0 false 1 := by unfold FldIs; kernel_rfl
theorem h13_fl24_1 : FldIs Tryd.prog 24 1 1 false 1 := by unfold FldIs; kernel_rfl
theorem h13_fl48_0 : FldIs Tryd.prog 48 0 0 false 1 := by unfold FldIs; kernel_rfl
theorem h13_fl96_1 : FldIs Tryd.prog 96 1 1 false 1 := by unfold FldIs; kernel_rfl
theorem h13_hcf18 : ∀ args w, (callFunc 18 args).run Tryd.prog w = .ok (.enter 18 args) w := fun _ _ => by kernel_rfl
theorem h13_hcf23 : ∀ args w, (callFunc 23 args).run Tryd.prog w = .ok (.enter 23 args) w := fun _ _ => by kernel_rfl
theorem h13_hcf32 : ∀ args w, (callFunc 32 args).run Tryd.prog w = .ok (.enter 32 args) w := fun _ _ => by kernel_rfl
theorem h13_hcf46 : ∀ args w, (callFunc 46 args).run Tryd.prog w = .ok (.enter 46 args) w := fun _ _ => by kernel_rfl
theorem h13_hcf59 : ∀ args w, (callFunc 59 args).run Tryd.prog w = .ok (.enter 59 args) w := fun _ _ => by kernel_rfl
theorem h13_hcf62 : ∀ args w, (callFunc 62 args).run Tryd.prog w = .ok (.enter 62 args) w := fun _ _ => by kernel_rfl
theorem h13_sl43 : SlIs Tryd.prog 43 24 2 16 (.agg #[.int .i64 0, .int .i64 0]) := ⟨by kernel_rfl, by kernel_rfl, by kernel_rfl⟩
theorem h13_sl46 : SlIs Tryd.prog 46 3 1 8 (.int .i64 0) := ⟨by kernel_rfl, by kernel_rfl, by kernel_rfl⟩
theorem h13_sz24 : (Tryd.prog.info? 24).map (·.size) = some 2 := by kernel_rfl
theorem h13_sz48 : (Tryd.prog.info? 48).map (·.size) = some 2 := by kernel_rfl
theorem h13_ty24 : TyIs Tryd.prog 24 true 2 := ⟨by kernel_rfl, by kernel_rfl⟩
theorem h13_ty3 : TyIs Tryd.prog 3 false 1 := ⟨by kernel_rfl, by kernel_rfl⟩
theorem h13_ty46 : TyIs Tryd.prog 46 false 1 := ⟨by kernel_rfl, by kernel_rfl⟩
set_option maxRecDepth 100000 in
set_option maxHeartbeats 1000000 in
theorem forceOf_ok (u v : V2) (hu : Bd 100000 u) (hv : Bd 100000 v) : FnOk Tryd.prog 25 [tA u, tA v] (fun q => q = .tuple [nA (prodV u v).2, nA 0]) := by
  have hr : rightE [u, v] = 0 := bd_right (by simp; exact ⟨hu, hv⟩)
  refine fnOk_of (fn := Tryd.f25) 18 (by kernel_rfl) rfl (by kernel_rfl) (Nat.le_of_ble_eq_true rfl) ?_
  intro e_0 m_0 hA hm_0
  have s0_0 : evA e_0 (.tmp 0) = _ := hA 0 _ rfl
  have s1_0 : evA e_0 (.tmp 1) = _ := hA 1 _ rfl
  have ml_0 : m_0.length = 0 := by rw [hm_0]; rfl
  clear hA hm_0
  refine aw_seq ?_
  refine aw_text (by kernel_rfl) ?_
  refine al_stm (st_box s0_0 rfl ml_0) trivial rfl (fun m_1 hm_1 => ?_)
  have mo0_1 := m_push hm_1 ml_0
  (try simp only [packA_t, packA_f, iE, bE, setAt, cellsA, Value.cells, map_vc, map_vn, Nat.reduceAdd, qS] at mo0_1)
  have ml_1 := m_push_l hm_1 ml_0
  have ml_1 : _ = 1 := ml_1
  clear hm_1
  refine al_stm (st_box (up_m rfl s1_0) rfl ml_1) trivial rfl (fun m_2 hm_2 => ?_)
  have mo1_2 := m_push hm_2 ml_1
  (try simp only [packA_t, packA_f, iE, bE, setAt, cellsA, Value.cells, map_vc, map_vn, Nat.reduceAdd, qS] at mo1_2)
  have mo0_2 := m_push_o hm_2 mo0_1
  have ml_2 := m_push_l hm_2 ml_1
  have ml_2 : _ = 2 := ml_2
  clear hm_2 mo0_1
  refine al_ro' (ro_assign ev_c) trivial rfl ?_
  refine al_ro' (ro_assign ev_c) trivial rfl ?_
  refine al_end (fun e_3 he_3 => ?_)
  have s2_3 := ef 2 he_3 (up_m rfl (u2 rfl up_h))
  have s3_3 := ef 3 he_3 (u2 rfl up_h)
  clear he_3 s0_0 s1_0
  refine then_n ?_
  refine aw_seq ?_
  refine aw_seq ?_
  refine aw_text (by kernel_rfl) ?_
  refine al_ro' (ro_eq (ro_ld_ptr h13_ty24 rfl mo0_2 s2_3 (by first | exact Nat.le_of_ble_eq_true rfl | omega | (simp only [lnS] <;> omega) | (simp <;> omega))) (by first | (simp only [packA_t, packA_f, iE, bE, setAt, cellsA, Value.cells, map_vc, map_vn, Nat.reduceAdd, qS] <;> rfl) | rfl)) trivial rfl ?_
  refine al_ro' (ro_eq (ro_ld_ptr h13_ty24 rfl mo1_2 (up_m rfl s3_3) (by first | exact Nat.le_of_ble_eq_true rfl | omega | (simp only [lnS] <;> omega) | (simp <;> omega))) (by first | (simp only [packA_t, packA_f, iE, bE, setAt, cellsA, Value.cells, map_vc, map_vn, Nat.reduceAdd, qS] <;> rfl) | rfl)) trivial rfl ?_
  refine al_ro' (ro_lit h13_sl43 (evP_cons (up_m rfl up_h) (evP_cons up_h evP_nil)) rfl rfl rfl rfl) trivial rfl ?_
  refine al_ro' (ro_call (evL_cons up_h evL_nil) rfl ((right_ok [u, v] (by simp)).mono (fun q h => h.trans (by rw [hr]))) h13_hcf59) trivial rfl ?_
  refine al_ro' (ro_assign up_h) trivial rfl ?_
  refine al_end (fun e_4 he_4 => ?_)
  have s2_4 := ef 2 he_4 (up_m rfl (u4 rfl s2_3))
  have s3_4 := ef 3 he_4 (up_m rfl (u4 rfl s3_3))
  have s6_4 := ef 6 he_4 up_h
  clear he_4 s2_3 s3_3
  refine then_n ?_
  refine aw_seq ?_
  refine aw_text (by kernel_rfl) ?_
  refine al_ro' (ro_move s6_4) trivial rfl ?_
  refine al_ro' (ro_neq up_h ev_c) trivial rfl ?_
  refine al_end (fun e_5 he_5 => ?_)
  have s2_5 := ef 2 he_5 (u2 rfl s2_4)
  have s3_5 := ef 3 he_5 (u2 rfl s3_4)
  have s6_5 := ef 6 he_5 (u2 rfl s6_4)
  have s12_5 := ef 12 he_5 up_h
  clear he_5 s2_4 s3_4 s6_4
  refine then_n ?_
  refine aw_case s12_5 (fun hq_6 => ?_) (fun hq_6 => ?_)
  · (first | replace hq_6 := bnt hq_6 | replace hq_6 := bnf hq_6 | replace hq_6 := bt hq_6 | replace hq_6 := bf hq_6 | replace hq_6 := bt' hq_6 | replace hq_6 := bf' hq_6 | skip)
    first
    | (cases hq_6; done) | (exfalso; omega)
    | (
       refine aw_seq ?_
       refine aw_text (by kernel_rfl) ?_
       refine al_ro' (ro_move s6_5) trivial rfl ?_
       refine al_ro' (ro_assign ev_c) trivial rfl ?_
       refine al_ro' (ro_assign (up_m rfl up_h)) trivial rfl ?_
       refine al_end (fun e_7 he_7 => ?_)
       have s4_7 := ef 4 he_7 (up_m rfl up_h)
       have s5_7 := ef 5 he_7 up_h
       clear he_7 s12_5 s2_5 s3_5 s6_5
       refine then_n ?_
       refine aw_ret ?_
       refine then_r ?_
       refine ret2 (.inr rfl) (by kernel_rfl) (resV_tmp s4_7) (resV_tmp s5_7) (.ro _ rfl) (.ro _ rfl) ?_
       clear s4_7 s5_7 mo1_2 mo0_2 ml_2
       rfl)
  · (first | replace hq_6 := bnt hq_6 | replace hq_6 := bnf hq_6 | replace hq_6 := bt hq_6 | replace hq_6 := bf hq_6 | replace hq_6 := bt' hq_6 | replace hq_6 := bf' hq_6 | skip)
    first
    | (cases hq_6; done) | (exfalso; omega)
    | (
       refine aw_skip ?_
       refine then_n ?_
       refine aw_seq ?_
       refine aw_text (by kernel_rfl) ?_
       refine al_ro' (ro_eq (ro_ld_ptr h13_ty24 rfl mo0_2 s2_5 (by first | exact Nat.le_of_ble_eq_true rfl | omega | (simp only [lnS] <;> omega) | (simp <;> omega))) (by first | (simp only [packA_t, packA_f, iE, bE, setAt, cellsA, Value.cells, map_vc, map_vn, Nat.reduceAdd, qS] <;> rfl) | rfl)) trivial rfl ?_
       refine al_ro' (ro_eq (ro_ld_ptr h13_ty24 rfl mo1_2 (up_m rfl s3_5) (by first | exact Nat.le_of_ble_eq_true rfl | omega | (simp only [lnS] <;> omega) | (simp <;> omega))) (by first | (simp only [packA_t, packA_f, iE, bE, setAt, cellsA, Value.cells, map_vc, map_vn, Nat.reduceAdd, qS] <;> rfl) | rfl)) trivial rfl ?_
       refine al_ro' (ro_call (evL_cons (up_m rfl up_h) (evL_cons up_h evL_nil)) rfl (product_ok u v (hu.mono (by decide)) (hv.mono (by decide))) h13_hcf62) trivial rfl ?_
       refine al_ro' (ro_eq (ro_fld h13_fl96_1 up_h (by first | exact Nat.le_of_ble_eq_true rfl | omega | (simp only [lnS] <;> omega) | (simp <;> omega)) rfl) (by first | (simp only [packA_t, packA_f, iE, bE, setAt, cellsA, Value.cells, map_vc, map_vn, Nat.reduceAdd, qS] <;> rfl) | rfl)) trivial rfl ?_
       refine al_ro' (ro_assign up_h) trivial rfl ?_
       refine al_ro' (ro_assign ev_c) trivial rfl ?_
       refine al_end (fun e_8 he_8 => ?_)
       have s4_8 := ef 4 he_8 (up_m rfl up_h)
       have s5_8 := ef 5 he_8 up_h
       clear he_8 s12_5 s2_5 s3_5 s6_5
       refine then_n ?_
       refine aw_ret ?_
       refine ret2 (.inr rfl) (by kernel_rfl) (resV_tmp s4_8) (resV_tmp s5_8) (.ro _ rfl) (.ro _ rfl) ?_
       clear s4_8 s5_8 mo1_2 mo0_2 ml_2
       rfl)
def smB (v : V2) : Bool := withinB v.1 (-1000) 1000 && withinB v.2 (-1000) 1000
theorem smB_bd {v : V2} (h : smB v = true) : Bd 1000 v := by
  simp only [smB, withinB, Bool.and_eq_true, decide_eq_true_eq] at h
  exact h
set_option maxRecDepth 100000 in
set_option maxHeartbeats 1000000 in
theorem statorSmall_ok (v : V2) : FnOk Tryd.prog 21 [tA v] (fun q => q = oA (smB v)) := by
  refine fnOk_of (fn := Tryd.f21) 11 (by kernel_rfl) rfl (by kernel_rfl) (Nat.le_of_ble_eq_true rfl) ?_
  intro e_0 m_0 hA hm_0
  have s0_0 : evA e_0 (.tmp 0) = _ := hA 0 _ rfl
  have ml_0 : m_0.length = 0 := by rw [hm_0]; rfl
  clear hA hm_0
  refine aw_seq ?_
  refine aw_text (by kernel_rfl) ?_
  refine al_stm (st_box s0_0 rfl ml_0) trivial rfl (fun m_1 hm_1 => ?_)
  have mo0_1 := m_push hm_1 ml_0
  (try simp only [packA_t, packA_f, iE, bE, setAt, cellsA, Value.cells, map_vc, map_vn, Nat.reduceAdd, qS] at mo0_1)
  have ml_1 := m_push_l hm_1 ml_0
  have ml_1 : _ = 1 := ml_1
  clear hm_1
  refine al_ro' (ro_assign ev_c) trivial rfl ?_
  refine al_end (fun e_2 he_2 => ?_)
  have s1_2 := ef 1 he_2 (up_m rfl up_h)
  clear he_2 s0_0
  refine then_n ?_
  refine aw_seq ?_
  refine aw_text (by kernel_rfl) ?_
  refine al_ro' (ro_fld_ptr h13_fl24_0 rfl s1_2) trivial rfl ?_
  refine al_ro' (ro_eq (ro_ld_ptr h13_ty3 rfl mo0_1 up_h (by first | exact Nat.le_of_ble_eq_true rfl | omega | (simp only [lnS] <;> omega) | (simp <;> omega))) (by first | (simp only [packA_t, packA_f, iE, bE, setAt, cellsA, Value.cells, map_vc, map_vn, Nat.reduceAdd, qS] <;> rfl) | rfl)) trivial rfl ?_
  refine al_ro' (ro_call (evL_cons up_h (evL_cons ev_c (evL_cons ev_c evL_nil))) rfl (bWithin_ok _ _ _) h13_hcf18) trivial rfl ?_
  refine al_ro' (ro_move up_h) trivial rfl ?_
  refine al_case up_h (fun hb_3 hq_3 => ?_) (fun hb_3 hq_3 => ?_)
  · (first | replace hq_3 := bnt hq_3 | replace hq_3 := bnf hq_3 | replace hq_3 := bt hq_3 | replace hq_3 := bf hq_3 | replace hq_3 := bt' hq_3 | replace hq_3 := bf' hq_3 | skip)
    first
    | (cases hq_3; done) | (exfalso; omega)
    | (
       refine al_ro' (ro_fld_ptr h13_fl24_1 rfl (u4 rfl s1_2)) ⟨_, rfl, hb_3⟩ rfl ?_
       refine al_ro' (ro_eq (ro_ld_ptr h13_ty3 rfl mo0_1 up_h (by first | exact Nat.le_of_ble_eq_true rfl | omega | (simp only [lnS] <;> omega) | (simp <;> omega))) (by first | (simp only [packA_t, packA_f, iE, bE, setAt, cellsA, Value.cells, map_vc, map_vn, Nat.reduceAdd, qS] <;> rfl) | rfl)) ⟨_, rfl, (up_m rfl hb_3)⟩ rfl ?_
       refine al_ro' (ro_call (evL_cons up_h (evL_cons ev_c (evL_cons ev_c evL_nil))) rfl (bWithin_ok _ _ _) h13_hcf18) ⟨_, rfl, (u2 rfl hb_3)⟩ rfl ?_
       refine al_ro' (ro_pickT (up_m rfl (u2 rfl hb_3)) up_h) trivial rfl ?_
       refine al_ro' (ro_assign up_h) trivial rfl ?_
       refine al_end (fun e_4 he_4 => ?_)
       have s2_4 := ef 2 he_4 up_h
       clear he_4 hb_3 s1_2
       refine then_n ?_
       refine aw_ret ?_
       refine ret1 (.inr rfl) (by kernel_rfl) (resV_tmp s2_4) (.ro _ rfl) ?_
       clear s2_4 mo0_1 ml_1
       (first | rfl | (simp [smB, *]; done) | (simp [smB, *] <;> omega) | (simp_all [smB]; done) | (simp_all [smB] <;> omega)))
  · (first | replace hq_3 := bnt hq_3 | replace hq_3 := bnf hq_3 | replace hq_3 := bt hq_3 | replace hq_3 := bf hq_3 | replace hq_3 := bt' hq_3 | replace hq_3 := bf' hq_3 | skip)
    first
    | (cases hq_3; done) | (exfalso; omega)
    | (
       refine al_skip' ⟨_, rfl, .inl hb_3⟩ rfl ?_
       refine al_skip' ⟨_, rfl, .inl (up_m rfl hb_3)⟩ rfl ?_
       refine al_skip' ⟨_, rfl, .inl (u2 rfl hb_3)⟩ rfl ?_
       refine al_ro' (ro_pickF (up_m rfl (u2 rfl hb_3)) ev_c) trivial rfl ?_
       refine al_ro' (ro_assign up_h) trivial rfl ?_
       refine al_end (fun e_5 he_5 => ?_)
       have s2_5 := ef 2 he_5 up_h
       clear he_5 hb_3 s1_2
       refine then_n ?_
       refine aw_ret ?_
       refine ret1 (.inr rfl) (by kernel_rfl) (resV_tmp s2_5) (.ro _ rfl) ?_
       clear s2_5 mo0_1 ml_1
       (first | rfl | (simp [smB, *]; done) | (simp [smB, *] <;> omega) | (simp_all [smB]; done) | (simp_all [smB] <;> omega)))
set_option maxRecDepth 100000 in
set_option maxHeartbeats 1000000 in
theorem tAwake_ok : FnOkG Tryd.prog gT 20 [] (fun q => q = oA true) := by
  refine fnOkG_of (fn := Tryd.f20) gT 35 (by kernel_rfl) rfl (by kernel_rfl) (Nat.le_of_ble_eq_true rfl) ?_
  intro e_0 m_0 hA hm_0
  have ml_0 : m_0.length = 1 := by rw [hm_0]; rfl
  have mo0_0 : m_0[0]? = some (.glob gT) := by rw [hm_0]; rfl
  clear hA hm_0
  refine aw_seq ?_
  refine aw_text (by kernel_rfl) ?_
  refine al_ro' (ro_assign ev_c) trivial rfl ?_
  refine al_end (fun e_1 he_1 => ?_)
  clear he_1
  refine then_n ?_
  refine aw_seq ?_
  refine aw_text (by kernel_rfl) ?_
  refine al_ro' (ro_build (evP_cons ev_c evP_nil) h13_bz24 h13_bu24 h13_bp24 rfl) trivial rfl ?_
  refine al_ro' (ro_call (evL_cons up_h (evL_cons ev_c evL_nil)) rfl (turned0_ok) h13_hcf32) trivial rfl ?_
  refine al_ro' (ro_move up_h) trivial rfl ?_
  refine al_ro' (ro_extract up_h rfl) trivial rfl ?_
  refine al_ro' (ro_extract (up_m rfl up_h) rfl) trivial rfl ?_
  refine al_stm (st_alloc h13_az24 rfl ml_0) trivial rfl (fun m_2 hm_2 => ?_)
  have mo1_2 := m_push hm_2 ml_0
  (try simp only [packA_t, packA_f, iE, bE, setAt, cellsA, Value.cells, map_vc, map_vn, Nat.reduceAdd, qS] at mo1_2)
  have mo0_2 := m_push_o hm_2 mo0_0
  have ml_2 := m_push_l hm_2 ml_0
  have ml_2 : _ = 2 := ml_2
  clear hm_2 mo0_0
  refine al_stm (st_store up_h (u2 rfl up_h) rfl rfl mo1_2 h13_sz24 rfl (by first | exact Nat.le_of_ble_eq_true rfl | omega | (simp only [lnS] <;> omega) | (simp <;> omega))) trivial rfl (fun m_3 hm_3 => ?_)
  have mo1_3 := m_set hm_3 mo1_2
  (try simp only [packA_t, packA_f, iE, bE, setAt, cellsA, Value.cells, map_vc, map_vn, Nat.reduceAdd, qS] at mo1_3)
  have mo0_3 := m_set_o hm_3 mo0_2 (by decide)
  have ml_3 := m_set_l hm_3 ml_2
  clear hm_3 mo1_2 mo0_2
  refine al_ro' (ro_assign (up_n (up_m rfl up_h))) trivial rfl ?_
  refine al_end (fun e_4 he_4 => ?_)
  have s1_4 := ef 1 he_4 (up_m rfl (up_n up_h))
  have s2_4 := ef 2 he_4 up_h
  clear he_4
  refine then_n ?_
  refine aw_seq ?_
  refine aw_text (by kernel_rfl) ?_
  refine al_ro' (ro_build (evP_cons ev_c evP_nil) h13_bz24 h13_bu24 h13_bp24 rfl) trivial rfl ?_
  refine al_ro' (ro_build (evP_cons ev_c evP_nil) h13_bz24 h13_bu24 h13_bp24 rfl) trivial rfl ?_
  refine al_ro' (ro_build (evP_cons ev_c evP_nil) h13_bz24 h13_bu24 h13_bp24 rfl) trivial rfl ?_
  refine al_ro' (ro_lit h13_sl43 (evP_cons (u2 rfl up_h) (evP_cons (up_m rfl up_h) (evP_cons up_h evP_nil))) rfl rfl rfl rfl) trivial rfl ?_
  refine al_ro' (ro_callG (evL_cons ev_c (evL_cons up_h evL_nil)) rfl mo0_3 (modulated0_ok) h13_hcf23) trivial rfl ?_
  refine al_ro' (ro_move up_h) trivial rfl ?_
  refine al_ro' (ro_extract up_h rfl) trivial rfl ?_
  refine al_ro' (ro_extract (up_m rfl up_h) rfl) trivial rfl ?_
  refine al_stm (st_alloc h13_az48 rfl ml_3) trivial rfl (fun m_5 hm_5 => ?_)
  have mo2_5 := m_push hm_5 ml_3
  (try simp only [packA_t, packA_f, iE, bE, setAt, cellsA, Value.cells, map_vc, map_vn, Nat.reduceAdd, qS] at mo2_5)
  have mo1_5 := m_push_o hm_5 mo1_3
  have mo0_5 := m_push_o hm_5 mo0_3
  have ml_5 := m_push_l hm_5 ml_3
  have ml_5 : _ = 3 := ml_5
  clear hm_5 mo1_3 mo0_3
  refine al_stm (st_store up_h (u2 rfl up_h) rfl rfl mo2_5 h13_sz48 rfl (by first | exact Nat.le_of_ble_eq_true rfl | omega | (simp only [lnS] <;> omega) | (simp <;> omega))) trivial rfl (fun m_6 hm_6 => ?_)
  have mo2_6 := m_set hm_6 mo2_5
  (try simp only [packA_t, packA_f, iE, bE, setAt, cellsA, Value.cells, map_vc, map_vn, Nat.reduceAdd, qS] at mo2_6)
  have mo1_6 := m_set_o hm_6 mo1_5 (by decide)
  have mo0_6 := m_set_o hm_6 mo0_5 (by decide)
  have ml_6 := m_set_l hm_6 ml_5
  clear hm_6 mo2_5 mo1_5 mo0_5
  refine al_ro' (ro_assign (up_n (up_m rfl up_h))) trivial rfl ?_
  refine al_end (fun e_7 he_7 => ?_)
  have s1_7 := ef 1 he_7 (up_m rfl (up_n (up_m rfl (u8 rfl s1_4))))
  have s2_7 := ef 2 he_7 (up_m rfl (up_n (up_m rfl (u8 rfl s2_4))))
  have s3_7 := ef 3 he_7 (up_m rfl (up_n up_h))
  have s4_7 := ef 4 he_7 up_h
  clear he_7 s1_4 s2_4
  refine then_n ?_
  refine aw_seq ?_
  refine aw_text (by kernel_rfl) ?_
  refine al_ro' (ro_move s2_7) trivial rfl ?_
  refine al_ro' (ro_eql up_h ev_c) trivial rfl ?_
  refine al_ro' (ro_move up_h) trivial rfl ?_
  refine al_case up_h (fun hb_8 hq_8 => ?_) (fun hb_8 hq_8 => ?_)
  · (first | replace hq_8 := bnt hq_8 | replace hq_8 := bnf hq_8 | replace hq_8 := bt hq_8 | replace hq_8 := bf hq_8 | replace hq_8 := bt' hq_8 | replace hq_8 := bf' hq_8 | skip)
    first
    | (cases hq_8; done) | (exfalso; omega)
    | (
       refine al_ro' (ro_eq (ro_ld_ptr h13_ty24 rfl mo1_6 (up_m rfl (u2 rfl s1_7)) (by first | exact Nat.le_of_ble_eq_true rfl | omega | (simp only [lnS] <;> omega) | (simp <;> omega))) (by first | (simp only [packA_t, packA_f, iE, bE, setAt, cellsA, Value.cells, map_vc, map_vn, Nat.reduceAdd, qS] <;> rfl) | rfl)) ⟨_, rfl, hb_8⟩ rfl ?_
       refine al_ro' (ro_build (evP_cons ev_c evP_nil) h13_bz24 h13_bu24 h13_bp24 rfl) ⟨_, rfl, (up_m rfl hb_8)⟩ rfl ?_
       refine al_ro' (ro_aeql (up_m rfl up_h) up_h (xs := [.int .i64 (-1), .int .i64 0]) (ys := [.int .i64 (-1), .int .i64 0]) (b := true) ⟨rfl, by kernel_rfl, fun _ => by kernel_rfl⟩) ⟨_, rfl, (u2 rfl hb_8)⟩ rfl ?_
       refine al_ro' (ro_pickT (up_m rfl (u2 rfl hb_8)) up_h) trivial rfl ?_
       refine al_ro' (ro_move up_h) trivial rfl ?_
       refine al_case up_h (fun hb_9 hq_9 => ?_) (fun hb_9 hq_9 => ?_)
       · (first | replace hq_9 := bnt hq_9 | replace hq_9 := bnf hq_9 | replace hq_9 := bt hq_9 | replace hq_9 := bf hq_9 | replace hq_9 := bt' hq_9 | replace hq_9 := bf' hq_9 | skip)
         first
         | (cases hq_9; done) | (exfalso; omega)
         | (
            refine al_ro' (ro_move (u8 rfl s4_7)) ⟨_, rfl, hb_9⟩ rfl ?_
            refine al_ro' (ro_eql up_h ev_c) ⟨_, rfl, (up_m rfl hb_9)⟩ rfl ?_
            refine al_ro' (ro_pickT (u2 rfl hb_9) up_h) trivial rfl ?_
            refine al_ro' (ro_move up_h) trivial rfl ?_
            refine al_case up_h (fun hb_10 hq_10 => ?_) (fun hb_10 hq_10 => ?_)
            · (first | replace hq_10 := bnt hq_10 | replace hq_10 := bnf hq_10 | replace hq_10 := bt hq_10 | replace hq_10 := bf hq_10 | replace hq_10 := bt' hq_10 | replace hq_10 := bf' hq_10 | skip)
              first
              | (cases hq_10; done) | (exfalso; omega)
              | (
                 refine al_ro' (ro_fld_ptr h13_fl48_0 rfl (u4 rfl (u8 rfl s3_7))) ⟨_, rfl, hb_10⟩ rfl ?_
                 refine al_ro' (ro_eq (ro_ld_ptr h13_ty46 rfl mo2_6 up_h (by first | exact Nat.le_of_ble_eq_true rfl | omega | (simp only [lnS] <;> omega) | (simp <;> omega))) (by first | (simp only [packA_t, packA_f, iE, bE, setAt, cellsA, Value.cells, map_vc, map_vn, Nat.reduceAdd, qS] <;> rfl) | rfl)) ⟨_, rfl, (up_m rfl hb_10)⟩ rfl ?_
                 refine al_ro' (ro_lit h13_sl46 (evP_cons ev_c (evP_cons ev_c (evP_cons ev_c evP_nil))) rfl rfl rfl rfl) ⟨_, rfl, (u2 rfl hb_10)⟩ rfl ?_
                 refine al_ro' (ro_call (evL_cons (up_m rfl up_h) (evL_cons up_h evL_nil)) rfl (sameI_ok [0, 4, 0] (by decide)) h13_hcf46) ⟨_, rfl, (up_m rfl (u2 rfl hb_10))⟩ rfl ?_
                 refine al_ro' (ro_pickT (u4 rfl hb_10) up_h) trivial rfl ?_
                 refine al_ro' (ro_assign up_h) trivial rfl ?_
                 refine al_end (fun e_11 he_11 => ?_)
                 have s0_11 := ef 0 he_11 up_h
                 clear he_11 hb_10 hb_8 hb_9 s1_7 s2_7 s3_7 s4_7
                 refine then_n ?_
                 refine aw_ret ?_
                 refine ret1 (.inr rfl) (by kernel_rfl) (resV_tmp s0_11) (.ro _ rfl) ?_
                 clear s0_11 mo2_6 mo1_6 mo0_6 ml_6
                 rfl)
            · (first | replace hq_10 := bnt hq_10 | replace hq_10 := bnf hq_10 | replace hq_10 := bt hq_10 | replace hq_10 := bf hq_10 | replace hq_10 := bt' hq_10 | replace hq_10 := bf' hq_10 | skip)
              first
              | (cases hq_10; done) | (exfalso; omega)
              | (
                 refine al_skip' ⟨_, rfl, .inl hb_10⟩ rfl ?_
                 refine al_skip' ⟨_, rfl, .inl (up_m rfl hb_10)⟩ rfl ?_
                 refine al_skip' ⟨_, rfl, .inl (u2 rfl hb_10)⟩ rfl ?_
                 refine al_skip' ⟨_, rfl, .inl (up_m rfl (u2 rfl hb_10))⟩ rfl ?_
                 refine al_ro' (ro_pickF (u4 rfl hb_10) ev_c) trivial rfl ?_
                 refine al_ro' (ro_assign up_h) trivial rfl ?_
                 refine al_end (fun e_12 he_12 => ?_)
                 have s0_12 := ef 0 he_12 up_h
                 clear he_12 hb_10 hb_8 hb_9 s1_7 s2_7 s3_7 s4_7
                 refine then_n ?_
                 refine aw_ret ?_
                 refine ret1 (.inr rfl) (by kernel_rfl) (resV_tmp s0_12) (.ro _ rfl) ?_
                 clear s0_12 mo2_6 mo1_6 mo0_6 ml_6
                 rfl))
       · (first | replace hq_9 := bnt hq_9 | replace hq_9 := bnf hq_9 | replace hq_9 := bt hq_9 | replace hq_9 := bf hq_9 | replace hq_9 := bt' hq_9 | replace hq_9 := bf' hq_9 | skip)
         first
         | (cases hq_9; done) | (exfalso; omega)
         | (
            refine al_skip' ⟨_, rfl, .inl hb_9⟩ rfl ?_
            refine al_skip' ⟨_, rfl, .inl (up_m rfl hb_9)⟩ rfl ?_
            refine al_ro' (ro_pickF (u2 rfl hb_9) ev_c) trivial rfl ?_
            refine al_ro' (ro_move up_h) trivial rfl ?_
            refine al_skip' ⟨_, rfl, .inl up_h⟩ rfl ?_
            refine al_skip' ⟨_, rfl, .inl (up_m rfl up_h)⟩ rfl ?_
            refine al_skip' ⟨_, rfl, .inl (u2 rfl up_h)⟩ rfl ?_
            refine al_skip' ⟨_, rfl, .inl (up_m rfl (u2 rfl up_h))⟩ rfl ?_
            refine al_ro' (ro_pickF (u4 rfl up_h) ev_c) trivial rfl ?_
            refine al_ro' (ro_assign up_h) trivial rfl ?_
            refine al_end (fun e_13 he_13 => ?_)
            have s0_13 := ef 0 he_13 up_h
            clear he_13 hb_8 hb_9 s1_7 s2_7 s3_7 s4_7
            refine then_n ?_
            refine aw_ret ?_
            refine ret1 (.inr rfl) (by kernel_rfl) (resV_tmp s0_13) (.ro _ rfl) ?_
            clear s0_13 mo2_6 mo1_6 mo0_6 ml_6
            rfl))
  · (first | replace hq_8 := bnt hq_8 | replace hq_8 := bnf hq_8 | replace hq_8 := bt hq_8 | replace hq_8 := bf hq_8 | replace hq_8 := bt' hq_8 | replace hq_8 := bf' hq_8 | skip)
    first
    | (cases hq_8; done) | (exfalso; omega)
    | (
       refine al_skip' ⟨_, rfl, .inl hb_8⟩ rfl ?_
       refine al_skip' ⟨_, rfl, .inl (up_m rfl hb_8)⟩ rfl ?_
       refine al_skip' ⟨_, rfl, .inl (u2 rfl hb_8)⟩ rfl ?_
       refine al_ro' (ro_pickF (up_m rfl (u2 rfl hb_8)) ev_c) trivial rfl ?_
       refine al_ro' (ro_move up_h) trivial rfl ?_
       refine al_skip' ⟨_, rfl, .inl up_h⟩ rfl ?_
       refine al_skip' ⟨_, rfl, .inl (up_m rfl up_h)⟩ rfl ?_
       refine al_ro' (ro_pickF (u2 rfl up_h) ev_c) trivial rfl ?_
       refine al_ro' (ro_move up_h) trivial rfl ?_
       refine al_skip' ⟨_, rfl, .inl up_h⟩ rfl ?_
       refine al_skip' ⟨_, rfl, .inl (up_m rfl up_h)⟩ rfl ?_
       refine al_skip' ⟨_, rfl, .inl (u2 rfl up_h)⟩ rfl ?_
       refine al_skip' ⟨_, rfl, .inl (up_m rfl (u2 rfl up_h))⟩ rfl ?_
       refine al_ro' (ro_pickF (u4 rfl up_h) ev_c) trivial rfl ?_
       refine al_ro' (ro_assign up_h) trivial rfl ?_
       refine al_end (fun e_14 he_14 => ?_)
       have s0_14 := ef 0 he_14 up_h
       clear he_14 hb_8 s1_7 s2_7 s3_7 s4_7
       refine then_n ?_
       refine aw_ret ?_
       refine ret1 (.inr rfl) (by kernel_rfl) (resV_tmp s0_14) (.ro _ rfl) ?_
       clear s0_14 mo2_6 mo1_6 mo0_6 ml_6
       rfl)
theorem force_bd {M : Int} {u f : V2} (hM : 0 ≤ M) (hu : Bd M u) (hf : Bd 1000 f) : -(6000 * M) ≤ (prodV u f).2 ∧ (prodV u f).2 ≤ 6000 * M := by
  have h1 := (conj_bd hf)
  have m1 := mulBd hu.1 h1.2
  have m2 := mulBd hu.2 h1.1
  have m3 := mulBd hu.2 h1.2
  simp only [prodV, mulV]
  omega
end Go.Proofs.YtgiiedpambimoaaDoor

/- Contracts of chapter 3: even forces, currents handed on. No conditions on a program. -/
namespace Go.Proofs.YtgiiedpambimoaaDoor
open Go Go.RowKit Go.Proofs
set_option linter.unusedSimpArgs false
set_option linter.unusedVariables false
theorem h14_az3 : (Tryd.prog.info? 3).bind (·.zero) = some (.int .i64 0) := by kernel_rfl
theorem h14_az96 : (Tryd.prog.info? 96).bind (·.zero) = some (.agg #[.int .i64 0, .int .i64 0]) := by kernel_rfl
theorem h14_bz96 : (Tryd.prog.info? 96).bind (·.zero) = some (.agg #[.int .i64 0, .int .i64 0]) := by kernel_rfl
theorem h14_bu96 : Tryd.prog.underlying 96 = some (.struct (fsOf Tryd.prog 96)) := by kernel_rfl
theorem h14_bp96 : ∀ w, ((fsOf Tryd.prog 96).mapM fun f => Prod.mk f.offset <$> sizeOf f.type : Sem (Array (Nat × Nat))).run Tryd.prog w = .ok (#[(0, 1), (1, 1)]) w := fun _ => by kernel_rfl
theorem h14_fl96_0 : FldIs Tryd.prog 96 0 0 false 1 := by unfold FldIs; kernel_rfl
theorem h14_fl96_1 : FldIs Tryd.prog 96 1 1 false 1 := by unfold FldIs; kernel_rfl
theorem h14_hcf49 : ∀ args w, (callFunc 49 args).run Tryd.prog w = .ok (.enter 49 args) w := fun _ _ => by kernel_rfl
theorem h14_hcf56 : ∀ args w, (callFunc 56 args).run Tryd.prog w = .ok (.enter 56 args) w := fun _ _ => by kernel_rfl
theorem h14_hcf58 : ∀ args w, (callFunc 58 args).run Tryd.prog w = .ok (.enter 58 args) w := fun _ _ => by kernel_rfl
theorem h14_hcf59 : ∀ args w, (callFunc 59 args).run Tryd.prog w = .ok (.enter 59 args) w := fun _ _ => by kernel_rfl
theorem h14_hcf60 : ∀ args w, (callFunc 60 args).run Tryd.prog w = .ok (.enter 60 args) w := fun _ _ => by kernel_rfl
theorem h14_hcf62 : ∀ args w, (callFunc 62 args).run Tryd.prog w = .ok (.enter 62 args) w := fun _ _ => by kernel_rfl
theorem h14_hcf63 : ∀ args w, (callFunc 63 args).run Tryd.prog w = .ok (.enter 63 args) w := fun _ _ => by kernel_rfl
theorem h14_hcf64 : ∀ args w, (callFunc 64 args).run Tryd.prog w = .ok (.enter 64 args) w := fun _ _ => by kernel_rfl
theorem h14_hcf65 : ∀ args w, (callFunc 65 args).run Tryd.prog w = .ok (.enter 65 args) w := fun _ _ => by kernel_rfl
theorem h14_hcf66 : ∀ args w, (callFunc 66 args).run Tryd.prog w = .ok (.enter 66 args) w := fun _ _ => by kernel_rfl
theorem h14_hcf67 : ∀ args w, (callFunc 67 args).run Tryd.prog w = .ok (.enter 67 args) w := fun _ _ => by kernel_rfl
theorem h14_hcf93 : ∀ args w, (callFunc 93 args).run Tryd.prog w = .ok (.enter 93 args) w := fun _ _ => by kernel_rfl
theorem h14_sl146 : SlIs Tryd.prog 146 27 1 8 (.int .i64 0) := ⟨by kernel_rfl, by kernel_rfl, by kernel_rfl⟩
theorem h14_sl43 : SlIs Tryd.prog 43 24 2 16 (.agg #[.int .i64 0, .int .i64 0]) := ⟨by kernel_rfl, by kernel_rfl, by kernel_rfl⟩
theorem h14_sz3 : (Tryd.prog.info? 3).map (·.size) = some 1 := by kernel_rfl
theorem h14_sz96 : (Tryd.prog.info? 96).map (·.size) = some 2 := by kernel_rfl
theorem h14_ty24 : TyIs Tryd.prog 24 true 2 := ⟨by kernel_rfl, by kernel_rfl⟩
theorem h14_ty3 : TyIs Tryd.prog 3 false 1 := ⟨by kernel_rfl, by kernel_rfl⟩
theorem h14_ty96 : TyIs Tryd.prog 96 true 2 := ⟨by kernel_rfl, by kernel_rfl⟩

def unB (f : V2) (q : Int) (v : V2) : Bool := !decide ((prodV v f).2 = q)
set_option maxRecDepth 100000 in
set_option maxHeartbeats 1000000 in
theorem even1_ok (v f : V2) (q : Int) (hv : Bd 100000 v) (hf : Bd 100000 f) : FnOk Tryd.prog 65 [tA v, .ref (tE f), .ref [nA q]] (fun r => r = oA (unB f q v)) := by
  refine fnOk_of (fn := Tryd.f65) 11 (by kernel_rfl) rfl (by kernel_rfl) (Nat.le_of_ble_eq_true rfl) ?_
  intro e_0 m_0 hA hm_0
  have s0_0 : evA e_0 (.tmp 0) = _ := hA 0 _ rfl
  have s1_0 : evA e_0 (.tmp 1) = _ := hA 1 _ rfl
  have s2_0 : evA e_0 (.tmp 2) = _ := hA 2 _ rfl
  have ml_0 : m_0.length = 0 := by rw [hm_0]; rfl
  clear hA hm_0
  refine aw_seq ?_
  refine aw_text (by kernel_rfl) ?_
  refine al_stm (st_box s0_0 rfl ml_0) trivial rfl (fun m_1 hm_1 => ?_)
  have mo0_1 := m_push hm_1 ml_0
  (try simp only [packA_t, packA_f, iE, bE, setAt, cellsA, Value.cells, map_vc, map_vn, Nat.reduceAdd, qS, tE] at mo0_1)
  have ml_1 := m_push_l hm_1 ml_0
  have ml_1 : _ = 1 := ml_1
  clear hm_1
  refine al_ro' (ro_assign ev_c) trivial rfl ?_
  refine al_end (fun e_2 he_2 => ?_)
  have s1_2 := ef 1 he_2 (u2 rfl s1_0)
  have s2_2 := ef 2 he_2 (u2 rfl s2_0)
  have s3_2 := ef 3 he_2 (up_m rfl up_h)
  clear he_2 s0_0 s1_0 s2_0
  refine then_n ?_
  refine aw_seq ?_
  refine aw_draw 7 (by kernel_rfl) (by kernel_rfl) (by kernel_rfl) (by kernel_rfl) ?_
  refine ds_ro' (ro_eq (ro_ld_ptr h14_ty24 rfl mo0_1 s3_2 (by first | exact Nat.le_of_ble_eq_true rfl | omega | (simp only [lnS] <;> omega) | (simp <;> omega))) (by first | (simp only [packA_t, packA_f, iE, bE, setAt, cellsA, Value.cells, map_vc, map_vn, Nat.reduceAdd, qS, tE] <;> rfl) | rfl)) trivial rfl ?_
  refine ds_ro' (ro_eq (ro_ld_ref h14_ty24 rfl (up_m rfl s1_2) (by first | exact Nat.le_of_ble_eq_true rfl | omega | (simp only [lnS] <;> omega) | (simp <;> omega))) (by first | (simp only [packA_t, packA_f, iE, bE, setAt, cellsA, Value.cells, map_vc, map_vn, Nat.reduceAdd, qS, tE] <;> rfl) | rfl)) trivial rfl ?_
  refine ds_ro' (ro_call (evL_cons (up_m rfl up_h) (evL_cons up_h evL_nil)) rfl (product_ok v f (hv.mono (by decide)) (hf.mono (by decide))) h14_hcf62) trivial rfl ?_
  refine ds_ro' (ro_eq (ro_fld h14_fl96_1 up_h (by first | exact Nat.le_of_ble_eq_true rfl | omega | (simp only [lnS] <;> omega) | (simp <;> omega)) rfl) (by first | (simp only [packA_t, packA_f, iE, bE, setAt, cellsA, Value.cells, map_vc, map_vn, Nat.reduceAdd, qS, tE] <;> rfl) | rfl)) trivial rfl ?_
  refine ds_ro' (ro_eq (ro_ld_ref h14_ty3 rfl (u4 rfl s2_2) (by first | exact Nat.le_of_ble_eq_true rfl | omega | (simp only [lnS] <;> omega) | (simp <;> omega))) (by first | (simp only [packA_t, packA_f, iE, bE, setAt, cellsA, Value.cells, map_vc, map_vn, Nat.reduceAdd, qS, tE] <;> rfl) | rfl)) trivial rfl ?_
  refine ds_ro' (ro_neq (up_m rfl up_h) up_h) trivial rfl ?_
  refine ds_ro' (ro_assign up_h) trivial rfl ?_
  refine ds_nil ?_
  refine al_end (fun e_3 he_3 => ?_)
  have s4_3 := ef 4 he_3 up_h
  clear he_3 s1_2 s2_2 s3_2
  refine then_n ?_
  refine aw_ret ?_
  refine ret1 (.inr rfl) (by kernel_rfl) (resV_tmp s4_3) (.ro _ rfl) ?_
  clear s4_3 mo0_1 ml_1
  (refine avb ?_; simp [unB])
set_option maxRecDepth 100000 in
set_option maxHeartbeats 4000000 in
theorem indexUneven_ok (l : List V2) (hl : l.length ≤ 1000000000) (hb : ∀ v ∈ l, Bd 100000 v) (f : V2) (q : Int) (hf : Bd 100000 f) : FnOk Tryd.prog 93 [.row 2 (l.map tE), .clo (.func 65) [] [.ref (tE f), .ref [nA q]]] (fun r => r = nA (idxB (unB f q) l)) := by
  refine fnOk_of (fn := Tryd.f93) 19 (by kernel_rfl) rfl (by kernel_rfl) (Nat.le_of_ble_eq_true rfl) ?_
  intro e_0 m_0 hA hm_0
  have s0_0 : evA e_0 (.tmp 0) = _ := hA 0 _ rfl
  have s1_0 : evA e_0 (.tmp 1) = _ := hA 1 _ rfl
  have ml_0 : m_0.length = 0 := by rw [hm_0]; rfl
  clear hA hm_0
  refine aw_seq ?_
  refine aw_text (by kernel_rfl) ?_
  refine al_ro' (ro_assign ev_c) trivial rfl ?_
  refine al_end (fun e_1 he_1 => ?_)
  have s0_1 := ef 0 he_1 (up_m rfl s0_0)
  have s1_1 := ef 1 he_1 (up_m rfl s1_0)
  clear he_1 s0_0 s1_0
  refine then_n ?_
  refine aw_seq ?_
  refine aw_seq ?_
  refine aw_text (by kernel_rfl) ?_
  refine al_ro' (ro_move s0_1) trivial rfl ?_
  refine al_ro' (ro_eq (ro_len_row up_h rfl h14_sl43.1) (by first | (simp only [lnS] <;> rfl) | rfl)) trivial rfl ?_
  refine al_ro' (ro_move ev_c) trivial rfl ?_
  refine al_end (fun e_2 he_2 => ?_)
  have s0_2 := ef 0 he_2 (up_m rfl (u2 rfl s0_1))
  have s1_2 := ef 1 he_2 (up_m rfl (u2 rfl s1_1))
  have s7_2 := ef 7 he_2 (up_m rfl up_h)
  have s8_2 := ef 8 he_2 up_h
  clear he_2 s0_1 s1_1
  refine then_n ?_
  refine aw_block ?_
  refine aw_loop (S := Int) (fun i e mem => (evA e (.tmp 8) = .v (.int .i64 i)) ∧ (evA e (.tmp 0) = evA e_2 (.tmp 0)) ∧ (evA e (.tmp 1) = evA e_2 (.tmp 1)) ∧ (evA e (.tmp 7) = evA e_2 (.tmp 7)) ∧ (mem.length = 0) ∧ ((0 ≤ i ∧ i ≤ l.length ∧ ∀ j : Nat, j < i.toNat → unB f q (l.getD j default) = false))) (fun i => (l.length - i).toNat) _ ⟨s8_2, rfl, rfl, rfl, ml_0, ?_⟩ ?_
  · (exact ⟨by omega, by omega, fun j h => absurd h (by omega)⟩)
  · rintro i e_3 m_3 ⟨s8_3, k0_3, k1_3, k7_3, ml_3, hinv⟩
    have s0_3 := k0_3.trans s0_2
    have s1_3 := k1_3.trans s1_2
    have s7_3 := k7_3.trans s7_2
    (obtain ⟨p1, p2, p3⟩ := hinv)
    refine aw_seq ?_
    refine aw_text (by kernel_rfl) ?_
    refine al_ro' (ro_lss s8_3 s7_3) trivial rfl ?_
    refine al_end (fun e_4 he_4 => ?_)
    have s0_4 := ef 0 he_4 (up_m rfl s0_3)
    have s1_4 := ef 1 he_4 (up_m rfl s1_3)
    have s7_4 := ef 7 he_4 (up_m rfl s7_3)
    have s8_4 := ef 8 he_4 (up_m rfl s8_3)
    have s9_4 := ef 9 he_4 up_h
    clear he_4 s0_3 s1_3 s7_3 s8_3
    refine then_n ?_
    refine aw_seq ?_
    refine aw_case s9_4 (fun hq_5 => ?_) (fun hq_5 => ?_)
    · (first | replace hq_5 := bnt hq_5 | replace hq_5 := bnf hq_5 | replace hq_5 := bt hq_5 | replace hq_5 := bf hq_5 | replace hq_5 := bt' hq_5 | replace hq_5 := bf' hq_5 | skip)
      first
      | (cases hq_5; done) | (exfalso; omega)
      | (
         refine aw_skip ?_
         refine then_n ?_
         refine aw_seq ?_
         refine aw_block ?_
         refine aw_seq ?_
         refine aw_text (by kernel_rfl) ?_
         refine al_ro' (ro_move s8_4) trivial rfl ?_
         refine al_ro' (ro_assign up_h) trivial rfl ?_
         refine al_end (fun e_6 he_6 => ?_)
         have s0_6 := ef 0 he_6 (u2 rfl s0_4)
         have s1_6 := ef 1 he_6 (u2 rfl s1_4)
         have s5_6 := ef 5 he_6 up_h
         have s7_6 := ef 7 he_6 (u2 rfl s7_4)
         have s8_6 := ef 8 he_6 (u2 rfl s8_4)
         clear he_6 s0_4 s1_4 s7_4 s8_4 s9_4
         refine then_n ?_
         refine aw_seq ?_
         refine aw_text (by kernel_rfl) ?_
         refine al_ro' (ro_move s1_6) trivial rfl ?_
         refine al_ro' (ro_move (up_m rfl s0_6)) trivial rfl ?_
         refine al_ro' (ro_move (u2 rfl s5_6)) trivial rfl ?_
         refine al_ro' (ro_eq (ro_ix h14_sl43 (up_m rfl up_h) up_h (by first | decide | omega | (simp <;> omega)) (by first | (refine idx_map ?_; first | omega | (simp only [lnS]; omega)) | (refine idx_mapI ?_; first | omega | (simp only [lnS]; omega)) | (refine idx_mapN ?_; first | omega | (simp only [lnS]; omega)) | rfl)) (by first | (simp only [packA_t, packA_f, iE, bE, setAt, cellsA, Value.cells, map_vc, map_vn, Nat.reduceAdd, qS] <;> rfl) | rfl)) trivial rfl ?_
         refine al_ro' (ro_eq (ro_ld_ref h14_ty24 rfl up_h (by first | exact Nat.le_of_ble_eq_true rfl | omega | (simp only [lnS] <;> omega) | (simp <;> omega))) (by first | (simp only [packA_t, packA_f, iE, bE, setAt, cellsA, Value.cells, map_vc, map_vn, Nat.reduceAdd, qS] <;> rfl) | rfl)) trivial rfl ?_
         refine al_ro' (ro_callv (u4 rfl up_h) (evL_cons up_h evL_nil) rfl rfl rfl (even1_ok (l.getD i.toNat default) f q (Bd.getD hb (by decide) _) hf) h14_hcf65) trivial rfl ?_
         refine al_end (fun e_7 he_7 => ?_)
         have s0_7 := ef 0 he_7 (u2 rfl (u4 rfl s0_6))
         have s1_7 := ef 1 he_7 (u2 rfl (u4 rfl s1_6))
         have s5_7 := ef 5 he_7 (u2 rfl (u4 rfl s5_6))
         have s7_7 := ef 7 he_7 (u2 rfl (u4 rfl s7_6))
         have s8_7 := ef 8 he_7 (u2 rfl (u4 rfl s8_6))
         have s16_7 := ef 16 he_7 up_h
         clear he_7 s0_6 s1_6 s5_6 s7_6 s8_6
         refine then_n ?_
         refine aw_case s16_7 (fun hq_8 => ?_) (fun hq_8 => ?_)
         · (first | replace hq_8 := bnt hq_8 | replace hq_8 := bnf hq_8 | replace hq_8 := bt hq_8 | replace hq_8 := bf hq_8 | replace hq_8 := bt' hq_8 | replace hq_8 := bf' hq_8 | skip)
           first
           | (cases hq_8; done) | (exfalso; omega)
           | (
              refine aw_seq ?_
              refine aw_text (by kernel_rfl) ?_
              refine al_ro' (ro_move s5_7) trivial rfl ?_
              refine al_ro' (ro_assign up_h) trivial rfl ?_
              refine al_end (fun e_9 he_9 => ?_)
              have s4_9 := ef 4 he_9 up_h
              clear he_9 s0_7 s16_7 s1_7 s5_7 s7_7 s8_7
              refine then_n ?_
              refine aw_ret ?_
              refine block_r ?_
              refine then_r ?_
              refine then_r ?_
              refine block_r ?_
              refine then_r ?_
              refine ret1 (.inr rfl) (by kernel_rfl) (resV_tmp s4_9) (.ro _ rfl) ?_
              clear s4_9  ml_3
              (rw [idxB_hit (i := i.toNat) (by omega) (by simp only [unB, Bool.not_eq_true', decide_eq_false_iff_not]; assumption) p3, Int.toNat_of_nonneg p1]))
         · (first | replace hq_8 := bnt hq_8 | replace hq_8 := bnf hq_8 | replace hq_8 := bt hq_8 | replace hq_8 := bf hq_8 | replace hq_8 := bt' hq_8 | replace hq_8 := bf' hq_8 | skip)
           first
           | (cases hq_8; done) | (exfalso; omega)
           | (
              refine aw_skip ?_
              refine block_n ?_
              refine then_n ?_
              refine aw_text (by kernel_rfl) ?_
              first | (refine al_ro' (ro_add' s8_7 ev_c ?_) trivial rfl ?_; · (unfold In64; omega)) | refine al_ro' (ro_add s8_7 ev_c) trivial rfl ?_
              refine al_ro' (ro_move up_h) trivial rfl ?_
              refine al_end (fun e_10 he_10 => ?_)
              have s0_10 := ef 0 he_10 (u2 rfl s0_7)
              have s1_10 := ef 1 he_10 (u2 rfl s1_7)
              have s7_10 := ef 7 he_10 (u2 rfl s7_7)
              have s8_10 := ef 8 he_10 up_h
              clear he_10 s0_7 s16_7 s1_7 s5_7 s7_7 s8_7
              refine then_n ?_
              refine ⟨_, ⟨s8_10, (s0_10.trans s0_2.symm), (s1_10.trans s1_2.symm), (s7_10.trans s7_2.symm), ml_3, ?_⟩, ?_⟩
              · (refine ⟨by omega, by omega, fun j hj => ?_⟩; by_cases hji : j < i.toNat; (exact p3 j hji); (rw [show j = i.toNat by omega]; simp only [unB, Bool.not_eq_false', decide_eq_true_eq]; assumption))
              · ((try dsimp only); omega)))
    · (first | replace hq_5 := bnt hq_5 | replace hq_5 := bnf hq_5 | replace hq_5 := bt hq_5 | replace hq_5 := bf hq_5 | replace hq_5 := bt' hq_5 | replace hq_5 := bf' hq_5 | skip)
      first
      | (cases hq_5; done) | (exfalso; omega)
      | (
         refine aw_exit ?_
         refine then_x ?_
         refine then_x ?_
         refine block_hit ?_
         refine then_n ?_
         refine aw_seq ?_
         refine aw_text (by kernel_rfl) ?_
         refine al_ro' (ro_assign ev_c) trivial rfl ?_
         refine al_end (fun e_11 he_11 => ?_)
         have s4_11 := ef 4 he_11 up_h
         clear he_11 s0_4 s1_4 s7_4 s8_4 s9_4
         refine then_n ?_
         refine aw_ret ?_
         refine ret1 (.inr rfl) (by kernel_rfl) (resV_tmp s4_11) (.ro _ rfl) ?_
         clear s4_11  ml_3
         (rw [idxB_miss (fun j hj => p3 j (by omega))]))
set_option maxRecDepth 100000 in
set_option maxHeartbeats 1000000 in
theorem containsUneven_ok (l : List V2) (hl : l.length ≤ 1000000000) (hb : ∀ v ∈ l, Bd 100000 v) (f : V2) (q : Int) (hf : Bd 100000 f) : FnOk Tryd.prog 64 [.row 2 (l.map tE), .clo (.func 65) [] [.ref (tE f), .ref [nA q]]] (fun r => r = oA (l.any (unB f q))) := by
  refine fnOk_of (fn := Tryd.f64) 9 (by kernel_rfl) rfl (by kernel_rfl) (Nat.le_of_ble_eq_true rfl) ?_
  intro e_0 m_0 hA hm_0
  have s0_0 : evA e_0 (.tmp 0) = _ := hA 0 _ rfl
  have s1_0 : evA e_0 (.tmp 1) = _ := hA 1 _ rfl
  have ml_0 : m_0.length = 0 := by rw [hm_0]; rfl
  clear hA hm_0
  refine aw_seq ?_
  refine aw_text (by kernel_rfl) ?_
  refine al_ro' (ro_assign ev_c) trivial rfl ?_
  refine al_end (fun e_1 he_1 => ?_)
  have s0_1 := ef 0 he_1 (up_m rfl s0_0)
  have s1_1 := ef 1 he_1 (up_m rfl s1_0)
  clear he_1 s0_0 s1_0
  refine then_n ?_
  refine aw_seq ?_
  refine aw_text (by kernel_rfl) ?_
  refine al_ro' (ro_move s0_1) trivial rfl ?_
  refine al_ro' (ro_move (up_m rfl s1_1)) trivial rfl ?_
  refine al_ro' (ro_call (evL_cons (up_m rfl up_h) (evL_cons up_h evL_nil)) rfl (indexUneven_ok l hl hb f q hf) h14_hcf93) trivial rfl ?_
  refine al_ro' (ro_geq up_h ev_c) trivial rfl ?_
  refine al_ro' (ro_assign up_h) trivial rfl ?_
  refine al_end (fun e_2 he_2 => ?_)
  have s4_2 := ef 4 he_2 up_h
  clear he_2 s0_1 s1_1
  refine then_n ?_
  refine aw_ret ?_
  refine ret1 (.inr rfl) (by kernel_rfl) (resV_tmp s4_2) (.ro _ rfl) ?_
  clear s4_2  ml_0
  (refine avb ?_; simp only [decide_eq_true_eq, idxB_any])
def evnB (cs : List V2) (f : V2) : Bool := !cs.any (unB f (prodV (cs.getD 0 default) f).2)
set_option maxRecDepth 100000 in
set_option maxHeartbeats 4000000 in
theorem even_ok (cs : List V2) (f : V2) (h1 : 1 ≤ cs.length) (h2 : cs.length ≤ 12) (hb : ∀ v ∈ cs, Bd 100000 v) (hf : Bd 100000 f) : FnOk Tryd.prog 27 [.row 2 (cs.map tE), tA f] (fun r => r = .tuple [oA (evnB cs f), nA 0]) := by
  have r1 : rightE cs = 0 := bd_right hb
  have r2 : rightE [f] = 0 := bd_right (by simpa using hf)
  have r3 : firstE [unlessE (decide ((0 : Int) < cs.length)) 10, unlessE (decide ((cs.length : Int) ≤ 12)) 8, 0, 0] = 0 := by rw [decide_eq_true (by omega), decide_eq_true (by omega)]; rfl
  refine fnOk_of (fn := Tryd.f27) 36 (by kernel_rfl) rfl (by kernel_rfl) (Nat.le_of_ble_eq_true rfl) ?_
  intro e_0 m_0 hA hm_0
  have s0_0 : evA e_0 (.tmp 0) = _ := hA 0 _ rfl
  have s1_0 : evA e_0 (.tmp 1) = _ := hA 1 _ rfl
  have ml_0 : m_0.length = 0 := by rw [hm_0]; rfl
  clear hA hm_0
  refine aw_seq ?_
  refine aw_text (by kernel_rfl) ?_
  refine al_stm (st_box s1_0 rfl ml_0) trivial rfl (fun m_1 hm_1 => ?_)
  have mo0_1 := m_push hm_1 ml_0
  (try simp only [packA_t, packA_f, iE, bE, setAt, cellsA, Value.cells, map_vc, map_vn, Nat.reduceAdd, qS, tE] at mo0_1)
  have ml_1 := m_push_l hm_1 ml_0
  have ml_1 : _ = 1 := ml_1
  clear hm_1
  refine al_ro' (ro_assign ev_c) trivial rfl ?_
  refine al_ro' (ro_assign ev_c) trivial rfl ?_
  refine al_end (fun e_2 he_2 => ?_)
  have s0_2 := ef 0 he_2 (up_m rfl (u2 rfl s0_0))
  have s3_2 := ef 3 he_2 (u2 rfl up_h)
  clear he_2 s0_0 s1_0
  refine then_n ?_
  refine aw_seq ?_
  refine aw_draw 16 (by kernel_rfl) (by kernel_rfl) (by kernel_rfl) (by kernel_rfl) ?_
  refine ds_ro' (ro_move s0_2) trivial rfl ?_
  refine ds_ro' (ro_eq (ro_len_row up_h rfl h14_sl43.1) (by first | (simp only [lnS] <;> rfl) | rfl)) trivial rfl ?_
  refine ds_ro' (ro_gtr up_h ev_c) trivial rfl ?_
  refine ds_ro' (ro_call (evL_cons up_h (evL_cons ev_c evL_nil)) rfl (sUnless_ok _ _) h14_hcf58) trivial rfl ?_
  refine ds_ro' (ro_move (u4 rfl s0_2)) trivial rfl ?_
  refine ds_ro' (ro_eq (ro_len_row up_h rfl h14_sl43.1) (by first | (simp only [lnS] <;> rfl) | rfl)) trivial rfl ?_
  refine ds_ro' (ro_leq up_h ev_c) trivial rfl ?_
  refine ds_ro' (ro_call (evL_cons up_h (evL_cons ev_c evL_nil)) rfl (sUnless_ok _ _) h14_hcf58) trivial rfl ?_
  refine ds_ro' (ro_move (u8 rfl s0_2)) trivial rfl ?_
  refine ds_ro' (ro_call (evL_cons up_h evL_nil) rfl ((right_ok cs (by omega)).mono (fun q h => h.trans (by rw [r1]))) h14_hcf59) trivial rfl ?_
  refine ds_ro' (ro_eq (ro_ld_ptr h14_ty24 rfl mo0_1 (u2 rfl (u8 rfl s3_2)) (by first | exact Nat.le_of_ble_eq_true rfl | omega | (simp only [lnS] <;> omega) | (simp <;> omega))) (by first | (simp only [packA_t, packA_f, iE, bE, setAt, cellsA, Value.cells, map_vc, map_vn, Nat.reduceAdd, qS, tE] <;> rfl) | rfl)) trivial rfl ?_
  refine ds_ro' (ro_lit h14_sl43 (evP_cons up_h evP_nil) rfl rfl rfl rfl) trivial rfl ?_
  refine ds_ro' (ro_call (evL_cons up_h evL_nil) rfl ((right_ok [f] (by simp)).mono (fun q h => h.trans (by rw [r2]))) h14_hcf59) trivial rfl ?_
  refine ds_ro' (ro_lit h14_sl146 (evP_cons (up_m rfl (u8 rfl up_h)) (evP_cons (up_m rfl (u4 rfl up_h)) (evP_cons (up_m rfl (u2 rfl up_h)) (evP_cons up_h evP_nil)))) rfl rfl rfl rfl) trivial rfl ?_
  refine ds_ro' (ro_call (evL_cons up_h evL_nil) rfl ((sFirst_ok [_, _, _, _] (by simp)).mono (fun q h => h.trans (by rw [r3]))) h14_hcf56) trivial rfl ?_
  refine ds_ro' (ro_assign up_h) trivial rfl ?_
  refine ds_nil ?_
  refine al_end (fun e_3 he_3 => ?_)
  have s0_3 := ef 0 he_3 (u16 rfl s0_2)
  have s3_3 := ef 3 he_3 (u16 rfl s3_2)
  have s6_3 := ef 6 he_3 up_h
  clear he_3 s0_2 s3_2
  refine then_n ?_
  refine aw_seq ?_
  refine aw_seq ?_
  refine aw_text (by kernel_rfl) ?_
  refine al_ro' (ro_move s6_3) trivial rfl ?_
  refine al_ro' (ro_neq up_h ev_c) trivial rfl ?_
  refine al_end (fun e_4 he_4 => ?_)
  have s0_4 := ef 0 he_4 (u2 rfl s0_3)
  have s3_4 := ef 3 he_4 (u2 rfl s3_3)
  have s6_4 := ef 6 he_4 (u2 rfl s6_3)
  have s24_4 := ef 24 he_4 up_h
  clear he_4 s0_3 s3_3 s6_3
  refine then_n ?_
  refine aw_case s24_4 (fun hq_5 => ?_) (fun hq_5 => ?_)
  · (first | replace hq_5 := bnt hq_5 | replace hq_5 := bnf hq_5 | replace hq_5 := bt hq_5 | replace hq_5 := bf hq_5 | replace hq_5 := bt' hq_5 | replace hq_5 := bf' hq_5 | skip)
    first
    | (cases hq_5; done) | (exfalso; omega)
    | (
       refine aw_seq ?_
       refine aw_text (by kernel_rfl) ?_
       refine al_ro' (ro_move s6_4) trivial rfl ?_
       refine al_ro' (ro_assign ev_c) trivial rfl ?_
       refine al_ro' (ro_assign (up_m rfl up_h)) trivial rfl ?_
       refine al_end (fun e_6 he_6 => ?_)
       have s4_6 := ef 4 he_6 (up_m rfl up_h)
       have s5_6 := ef 5 he_6 up_h
       clear he_6 s0_4 s24_4 s3_4 s6_4
       refine then_n ?_
       refine aw_ret ?_
       refine then_r ?_
       refine ret2 (.inr rfl) (by kernel_rfl) (resV_tmp s4_6) (resV_tmp s5_6) (.ro _ rfl) (.ro _ rfl) ?_
       clear s4_6 s5_6 mo0_1 ml_1
       rfl)
  · (first | replace hq_5 := bnt hq_5 | replace hq_5 := bnf hq_5 | replace hq_5 := bt hq_5 | replace hq_5 := bf hq_5 | replace hq_5 := bt' hq_5 | replace hq_5 := bf' hq_5 | skip)
    first
    | (cases hq_5; done) | (exfalso; omega)
    | (
       refine aw_skip ?_
       refine then_n ?_
       refine aw_seq ?_
       refine aw_drawK 7 1 ml_1 (by kernel_rfl) (by kernel_rfl) (by kernel_rfl) (by kernel_rfl) (fun m_7 hm_7 => ?_)
       have mo0_7 := m_room_o hm_7 mo0_1
       have mo1_7 : m_7[1]? = _ := m_room_g hm_7 ml_1 0 rfl rfl
       have ml_7 : _ = 2 := m_room_l hm_7 ml_1
       clear hm_7 mo0_1 ml_1
       refine dh_ro (fun M_ hM_ => (ro_move s0_4)) trivial ?_
       refine dh_ro (fun M_ hM_ => (ro_eq (ro_ix h14_sl43 up_h ev_c (by first | decide | omega | (simp <;> omega)) (by first | (refine idx_map ?_; first | omega | (simp only [lnS]; omega)) | (refine idx_mapI ?_; first | omega | (simp only [lnS]; omega)) | (refine idx_mapN ?_; first | omega | (simp only [lnS]; omega)) | rfl)) (by first | (simp only [packA_t, packA_f, iE, bE, setAt, cellsA, Value.cells, map_vc, map_vn, Nat.reduceAdd, qS, tE] <;> rfl) | rfl))) trivial ?_
       refine dh_ro (fun M_ hM_ => (ro_eq (ro_ld_ref h14_ty24 rfl up_h (by first | exact Nat.le_of_ble_eq_true rfl | omega | (simp only [lnS] <;> omega) | (simp <;> omega))) (by first | (simp only [packA_t, packA_f, iE, bE, setAt, cellsA, Value.cells, map_vc, map_vn, Nat.reduceAdd, qS, tE] <;> rfl) | rfl))) trivial ?_
       refine dh_ld (0) (fun M_ hM_ => (ro_eq (ro_ld_ptr h14_ty24 rfl (agr hM_ mo0_7 (by simp)) (up_m rfl (u2 rfl s3_4)) (by first | exact Nat.le_of_ble_eq_true rfl | omega | (simp only [lnS] <;> omega) | (simp <;> omega))) (by first | (simp only [packA_t, packA_f, iE, bE, setAt, cellsA, Value.cells, map_vc, map_vn, Nat.reduceAdd, qS, tE] <;> rfl) | rfl))) trivial trivial ?_
       refine dh_ro (fun M_ hM_ => (ro_call (evL_cons (up_m rfl up_h) (evL_cons up_h evL_nil)) rfl (product_ok (cs.getD 0 default) f ((Bd.getD hb (by decide) _).mono (by decide)) (hf.mono (by decide))) h14_hcf62)) trivial ?_
       refine dh_ro (fun M_ hM_ => (ro_eq (ro_fld h14_fl96_1 up_h (by first | exact Nat.le_of_ble_eq_true rfl | omega | (simp only [lnS] <;> omega) | (simp <;> omega)) rfl) (by first | (simp only [packA_t, packA_f, iE, bE, setAt, cellsA, Value.cells, map_vc, map_vn, Nat.reduceAdd, qS, tE] <;> rfl) | rfl))) trivial ?_
       refine dh_nw (1) (fun M_ hM_ => (nw_alloc h14_az3 rfl)) trivial mo1_7 rfl trivial ⟨.inl (by simp <;> omega), trivial⟩ (fun m_8 hm_8 => ?_)
       have mo1_8 := m_set hm_8 mo1_7
       (try simp only [packA_t, packA_f, iE, bE, setAt, cellsA, Value.cells, map_vc, map_vn, Nat.reduceAdd, qS, tE] at mo1_8)
       have mo0_8 := m_set_o hm_8 mo0_7 (by decide)
       have ml_8 := m_set_l hm_8 ml_7
       clear hm_8 mo0_7 mo1_7
       refine dh_nil rfl ?_
       refine al_stm (st_store up_h (up_m rfl up_h) rfl rfl mo1_8 h14_sz3 rfl (by first | exact Nat.le_of_ble_eq_true rfl | omega | (simp only [lnS] <;> omega) | (simp <;> omega))) trivial rfl (fun m_9 hm_9 => ?_)
       have mo1_9 := m_set hm_9 mo1_8
       (try simp only [packA_t, packA_f, iE, bE, setAt, cellsA, Value.cells, map_vc, map_vn, Nat.reduceAdd, qS, tE] at mo1_9)
       have mo0_9 := m_set_o hm_9 mo0_8 (by decide)
       have ml_9 := m_set_l hm_9 ml_8
       clear hm_9 mo1_8 mo0_8
       refine al_end (fun e_10 he_10 => ?_)
       have s0_10 := ef 0 he_10 (up_n (up_m rfl (u2 rfl (u4 rfl s0_4))))
       have s3_10 := ef 3 he_10 (up_n (up_m rfl (u2 rfl (u4 rfl s3_4))))
       have s7_10 := ef 7 he_10 (up_n up_h)
       clear he_10 s0_4 s24_4 s3_4 s6_4
       refine then_n ?_
       refine aw_seq ?_
       refine aw_freeze s3_10 mo0_9 (by first | rfl | (apply roL_flat; intro _; rfl)) (fun m_11 e_11 hm_11 he_11 => ?_)
       have mo1_11 := m_set_o hm_11 mo1_9 (by decide)
       have ml_11 := m_set_l hm_11 ml_9
       have s0_11 : evA e_11 (.tmp 0) = _ := (congrArg (fun q => evA q (.tmp 0)) he_11).trans (up_m rfl s0_10)
       have s3_11 : evA e_11 (.tmp 3) = _ := (congrArg (fun q => evA q (.tmp 3)) he_11).trans up_h
       have s7_11 : evA e_11 (.tmp 7) = _ := (congrArg (fun q => evA q (.tmp 7)) he_11).trans (up_m rfl s7_10)
       clear hm_11 he_11
       refine aw_freeze s7_11 mo1_11 (by first | rfl | (apply roL_flat; intro _; rfl)) (fun m_12 e_12 hm_12 he_12 => ?_)
       have ml_12 := m_set_l hm_12 ml_11
       have s0_12 : evA e_12 (.tmp 0) = _ := (congrArg (fun q => evA q (.tmp 0)) he_12).trans (up_m rfl s0_11)
       have s3_12 : evA e_12 (.tmp 3) = _ := (congrArg (fun q => evA q (.tmp 3)) he_12).trans (up_m rfl s3_11)
       have s7_12 : evA e_12 (.tmp 7) = _ := (congrArg (fun q => evA q (.tmp 7)) he_12).trans up_h
       clear hm_12 he_12
       refine aw_text (by kernel_rfl) ?_
       refine al_ro' (ro_move s0_12) trivial rfl ?_
       refine al_ro' (ro_makeFunc evL_nil (evL_cons (up_m rfl s3_12) (evL_cons (up_m rfl s7_12) evL_nil))) trivial rfl ?_
       refine al_ro' (ro_call (evL_cons (up_m rfl up_h) (evL_cons up_h evL_nil)) rfl (containsUneven_ok cs (by omega) hb f _ hf) h14_hcf64) trivial rfl ?_
       refine al_ro' (ro_not up_h) trivial rfl ?_
       refine al_ro' (ro_assign up_h) trivial rfl ?_
       refine al_ro' (ro_assign ev_c) trivial rfl ?_
       refine al_end (fun e_13 he_13 => ?_)
       have s4_13 := ef 4 he_13 (up_m rfl up_h)
       have s5_13 := ef 5 he_13 up_h
       clear he_13 s0_12 s3_12 s7_12
       refine then_n ?_
       refine aw_ret ?_
       refine ret2 (.inr rfl) (by kernel_rfl) (resV_tmp s4_13) (resV_tmp s5_13) (.ro _ rfl) (.ro _ rfl) ?_
       clear s4_13 s5_13  ml_12
       rfl)
theorem floor_div (n b : Int) (hb : 1 ≤ b) : (n.tmod b < 0 → n / b = n.tdiv b - 1) ∧ (0 ≤ n.tmod b → n / b = n.tdiv b) := by
  have h1 := Int.tmod_add_mul_tdiv n b
  have h2 := Int.tmod_lt_of_pos n (show 0 < b by omega)
  have h3 : -b < n.tmod b := by
    have := Int.lt_tmod_of_pos n (show 0 < b by omega); omega
  generalize n.tmod b = r at *
  generalize n.tdiv b = q at *
  refine ⟨fun h => ?_, fun h => ?_⟩
  · have e : n = (r + b) + b * (q - 1) := by rw [Int.mul_sub]; omega
    rw [e, Int.add_mul_ediv_left _ _ (by omega), Int.ediv_eq_zero_of_lt (by omega) (by omega)]; omega
  · rw [← h1, Int.add_mul_ediv_left _ _ (by omega), Int.ediv_eq_zero_of_lt (by omega) (by omega)]; omega
theorem tdiv_bd {n b M : Int} (hM : 0 ≤ M) (hn : -M ≤ n ∧ n ≤ M) (hb : 1 ≤ b) : -M ≤ n.tdiv b ∧ n.tdiv b ≤ M := by
  have h : (n.tdiv b).natAbs ≤ n.natAbs := by rw [Int.natAbs_tdiv]; exact Nat.div_le_self _ _
  omega
set_option maxRecDepth 100000 in
set_option maxHeartbeats 1000000 in
theorem floor_ok (n b : Int) (hn : -1000000000000 ≤ n ∧ n ≤ 1000000000000) (hb : 1 ≤ b ∧ b ≤ 1000) : FnOk Tryd.prog 67 [nA n, nA b] (fun r => r = nA (n / b)) := by
  have hd := floor_div n b hb.1
  have hbd := tdiv_bd (by decide) hn hb.1
  have hw : IntKind.i64.wrap (n.tdiv b) = n.tdiv b := wrap_in (by unfold In64; omega)
  refine fnOk_of (fn := Tryd.f67) 16 (by kernel_rfl) rfl (by kernel_rfl) (Nat.le_of_ble_eq_true rfl) ?_
  intro e_0 m_0 hA hm_0
  have s0_0 : evA e_0 (.tmp 0) = _ := hA 0 _ rfl
  have s1_0 : evA e_0 (.tmp 1) = _ := hA 1 _ rfl
  have ml_0 : m_0.length = 0 := by rw [hm_0]; rfl
  clear hA hm_0
  refine aw_seq ?_
  refine aw_text (by kernel_rfl) ?_
  refine al_ro' (ro_assign ev_c) trivial rfl ?_
  refine al_end (fun e_1 he_1 => ?_)
  have s0_1 := ef 0 he_1 (up_m rfl s0_0)
  have s1_1 := ef 1 he_1 (up_m rfl s1_0)
  clear he_1 s0_0 s1_0
  refine then_n ?_
  refine aw_seq ?_
  refine aw_text (by kernel_rfl) ?_
  refine al_ro' (ro_move s0_1) trivial rfl ?_
  refine al_ro' (ro_move (up_m rfl s1_1)) trivial rfl ?_
  first | (refine al_ro' (ro_quo' (up_m rfl up_h) up_h (by first | decide | omega) ?_) trivial rfl ?_; · (unfold In64; omega)) | refine al_ro' (ro_quo (up_m rfl up_h) up_h (by first | decide | omega)) trivial rfl ?_
  refine al_ro' (ro_assign up_h) trivial rfl ?_
  refine al_end (fun e_2 he_2 => ?_)
  have s0_2 := ef 0 he_2 (u4 rfl s0_1)
  have s1_2 := ef 1 he_2 (u4 rfl s1_1)
  have s5_2 := ef 5 he_2 up_h
  clear he_2 s0_1 s1_1
  refine then_n ?_
  refine aw_seq ?_
  refine aw_seq ?_
  refine aw_text (by kernel_rfl) ?_
  refine al_ro' (ro_move s0_2) trivial rfl ?_
  refine al_ro' (ro_move (up_m rfl s1_2)) trivial rfl ?_
  refine al_ro' (ro_rem (up_m rfl up_h) up_h (by first | decide | omega)) trivial rfl ?_
  refine al_ro' (ro_lss up_h ev_c) trivial rfl ?_
  refine al_end (fun e_3 he_3 => ?_)
  have s5_3 := ef 5 he_3 (u4 rfl s5_2)
  have s12_3 := ef 12 he_3 up_h
  clear he_3 s0_2 s1_2 s5_2
  refine then_n ?_
  refine aw_case s12_3 (fun hq_4 => ?_) (fun hq_4 => ?_)
  · (first | replace hq_4 := bnt hq_4 | replace hq_4 := bnf hq_4 | replace hq_4 := bt hq_4 | replace hq_4 := bf hq_4 | replace hq_4 := bt' hq_4 | replace hq_4 := bf' hq_4 | skip)
    first
    | (cases hq_4; done) | (exfalso; omega)
    | (
       refine aw_text (by kernel_rfl) ?_
       refine al_ro' (ro_move s5_3) trivial rfl ?_
       first | (refine al_ro' (ro_sub' up_h ev_c ?_) trivial rfl ?_; · (unfold In64; omega)) | refine al_ro' (ro_sub up_h ev_c) trivial rfl ?_
       refine al_ro' (ro_assign up_h) trivial rfl ?_
       refine al_end (fun e_5 he_5 => ?_)
       have s5_5 := ef 5 he_5 up_h
       clear he_5 s12_3 s5_3
       refine then_n ?_
       refine aw_seq ?_
       refine aw_text (by kernel_rfl) ?_
       refine al_ro' (ro_move s5_5) trivial rfl ?_
       refine al_ro' (ro_assign up_h) trivial rfl ?_
       refine al_end (fun e_6 he_6 => ?_)
       have s4_6 := ef 4 he_6 up_h
       clear he_6 s5_5
       refine then_n ?_
       refine aw_ret ?_
       refine ret1 (.inr rfl) (by kernel_rfl) (resV_tmp s4_6) (.ro _ rfl) ?_
       clear s4_6  ml_0
       (rw [hd.1 (by assumption)]))
  · (first | replace hq_4 := bnt hq_4 | replace hq_4 := bnf hq_4 | replace hq_4 := bt hq_4 | replace hq_4 := bf hq_4 | replace hq_4 := bt' hq_4 | replace hq_4 := bf' hq_4 | skip)
    first
    | (cases hq_4; done) | (exfalso; omega)
    | (
       refine aw_skip ?_
       refine then_n ?_
       refine aw_seq ?_
       refine aw_text (by kernel_rfl) ?_
       refine al_ro' (ro_move s5_3) trivial rfl ?_
       refine al_ro' (ro_assign up_h) trivial rfl ?_
       refine al_end (fun e_7 he_7 => ?_)
       have s4_7 := ef 4 he_7 up_h
       clear he_7 s12_3 s5_3
       refine then_n ?_
       refine aw_ret ?_
       refine ret1 (.inr rfl) (by kernel_rfl) (resV_tmp s4_7) (.ro _ rfl) ?_
       clear s4_7  ml_0
       (rw [hd.2 (by omega)]))
/-- What is handed on at a step. -/
def hanAt (u v : V2) (n : Int) (i : Nat) : V2 := (u.1 + ((i : Int) + 1) * (v.1 - u.1) / n, u.2 + ((i : Int) + 1) * (v.2 - u.2) / n)
def hanV (u v : V2) (n : Int) (k : Nat) : List V2 := (List.range k).map (hanAt u v n)
theorem hanV_len (u v : V2) (n : Int) (k : Nat) : (hanV u v n k).length = k := by simp [hanV]
theorem hanV_succ (u v : V2) (n : Int) (k : Nat) : hanV u v n (k + 1) = hanV u v n k ++ [hanAt u v n k] := by simp [hanV, List.range_succ]
theorem one_tE (a b : Int) : [[nA a, nA b]] = [((a, b) : V2)].map tE := rfl
/-- A part of a way. -/
theorem part_bd {w n j : Int} (hn : 1 ≤ n) (hj : 1 ≤ j ∧ j ≤ n) : (0 ≤ w → 0 ≤ j * w / n ∧ j * w / n ≤ w) ∧ (w ≤ 0 → w ≤ j * w / n ∧ j * w / n ≤ 0) := by
  refine ⟨fun h => ⟨Int.ediv_nonneg (Int.mul_nonneg (by omega) h) (by omega), ?_⟩, fun h => ⟨?_, ?_⟩⟩
  · have := Int.mul_le_mul_of_nonneg_right hj.2 h
    exact Int.ediv_le_of_le_mul (by omega) (by rw [Int.mul_comm w n]; exact this)
  · have := Int.mul_le_mul_of_nonpos_right hj.2 h
    exact (Int.le_ediv_iff_mul_le (by omega)).2 (by rw [Int.mul_comm w n]; exact this)
  · have h1 : j * w ≤ 0 := Int.mul_nonpos_of_nonneg_of_nonpos (by omega) h
    have := Int.ediv_le_ediv (c := n) (by omega) h1
    rwa [Int.zero_ediv] at this
theorem hanAt_bd {u v : V2} {M n : Int} {i : Nat} (hu : Bd M u) (hv : Bd M v) (hn : 1 ≤ n) (hi : (i : Int) < n) : Bd M (hanAt u v n i) := by
  obtain ⟨⟨a1, a2⟩, a3, a4⟩ := hu
  obtain ⟨⟨b1, b2⟩, b3, b4⟩ := hv
  have p1 := part_bd (w := v.1 - u.1) hn (j := (i : Int) + 1) (by omega)
  have p2 := part_bd (w := v.2 - u.2) hn (j := (i : Int) + 1) (by omega)
  unfold Bd hanAt
  simp only
  generalize ((i : Int) + 1) * (v.1 - u.1) / n = x at *
  generalize ((i : Int) + 1) * (v.2 - u.2) / n = y at *
  omega
theorem han_pt {a b n i : Int} (hn : 1 ≤ n) (h0 : 0 ≤ i) (hi : i ≤ n) (m1 : -(20 * 2000) ≤ (i + 1) * a ∧ (i + 1) * a ≤ 20 * 2000) (m2 : -(20 * 2000) ≤ (i + 1) * b ∧ (i + 1) * b ≤ 20 * 2000) : Bd 1000000000 ((i + 1) * a / n, (i + 1) * b / n) := by
  have f : ∀ x : Int, -40000 ≤ x → x ≤ 40000 → -40000 ≤ x / n ∧ x / n ≤ 40000 := fun x h1 h2 => by
    refine ⟨(Int.le_ediv_iff_mul_le (by omega)).2 (by omega), ?_⟩
    rcases Int.le_total 0 x with h | h
    · exact Int.le_trans (Int.ediv_le_self _ h) h2
    · have := Int.ediv_le_ediv (c := n) (by omega) h
      rw [Int.zero_ediv] at this; omega
  have p1 := f ((i + 1) * a) (by omega) (by omega)
  have p2 := f ((i + 1) * b) (by omega) (by omega)
  refine ⟨⟨?_, ?_⟩, ?_, ?_⟩ <;> simp only <;> omega
set_option maxRecDepth 100000 in
set_option maxHeartbeats 4000000 in
theorem handed_ok (u v : V2) (n : Int) (hu : Bd 1000 u) (hv : Bd 1000 v) (hn : 1 ≤ n ∧ n ≤ 20) : FnOk Tryd.prog 28 [tA u, tA v, nA n] (fun r => r = .tuple [.row 2 ((hanV u v n n.toNat).map tE), nA 0]) := by
  have r1 : rightE [u, v] = 0 := bd_right (by simp; exact ⟨hu.mono (by decide), hv.mono (by decide)⟩)
  have r3 : firstE [0, unlessE (withinB n 1 100) 2] = 0 := by rw [show withinB n 1 100 = true by simp [withinB]; omega]; rfl
  obtain ⟨⟨a1, a2⟩, a3, a4⟩ := id hu
  obtain ⟨⟨b1, b2⟩, b3, b4⟩ := id hv
  refine fnOk_of (fn := Tryd.f28) 52 (by kernel_rfl) rfl (by kernel_rfl) (Nat.le_of_ble_eq_true rfl) ?_
  intro e_0 m_0 hA hm_0
  have s0_0 : evA e_0 (.tmp 0) = _ := hA 0 _ rfl
  have s1_0 : evA e_0 (.tmp 1) = _ := hA 1 _ rfl
  have s2_0 : evA e_0 (.tmp 2) = _ := hA 2 _ rfl
  have ml_0 : m_0.length = 0 := by rw [hm_0]; rfl
  clear hA hm_0
  refine aw_seq ?_
  refine aw_text (by kernel_rfl) ?_
  refine al_stm (st_box s0_0 rfl ml_0) trivial rfl (fun m_1 hm_1 => ?_)
  have mo0_1 := m_push hm_1 ml_0
  (try simp only [packA_t, packA_f, iE, bE, setAt, cellsA, Value.cells, map_vc, map_vn, Nat.reduceAdd, qS, tE, one_tE, app_m] at mo0_1)
  have ml_1 := m_push_l hm_1 ml_0
  have ml_1 : _ = 1 := ml_1
  clear hm_1
  refine al_stm (st_box (up_m rfl s1_0) rfl ml_1) trivial rfl (fun m_2 hm_2 => ?_)
  have mo1_2 := m_push hm_2 ml_1
  (try simp only [packA_t, packA_f, iE, bE, setAt, cellsA, Value.cells, map_vc, map_vn, Nat.reduceAdd, qS, tE, one_tE, app_m] at mo1_2)
  have mo0_2 := m_push_o hm_2 mo0_1
  have ml_2 := m_push_l hm_2 ml_1
  have ml_2 : _ = 2 := ml_2
  clear hm_2 mo0_1
  refine al_ro' (ro_assign ev_c) trivial rfl ?_
  refine al_ro' (ro_assign ev_c) trivial rfl ?_
  refine al_end (fun e_3 he_3 => ?_)
  have s2_3 := ef 2 he_3 (u4 rfl s2_0)
  have s3_3 := ef 3 he_3 (up_m rfl (u2 rfl up_h))
  have s4_3 := ef 4 he_3 (u2 rfl up_h)
  clear he_3 s0_0 s1_0 s2_0
  refine then_n ?_
  refine aw_seq ?_
  refine aw_seq ?_
  refine aw_text (by kernel_rfl) ?_
  refine al_ro' (ro_eq (ro_ld_ptr h14_ty24 rfl mo0_2 s3_3 (by first | exact Nat.le_of_ble_eq_true rfl | omega | (simp only [lnS] <;> omega) | (simp <;> omega))) (by first | (simp only [packA_t, packA_f, iE, bE, setAt, cellsA, Value.cells, map_vc, map_vn, Nat.reduceAdd, qS, tE, one_tE, app_m] <;> rfl) | rfl)) trivial rfl ?_
  refine al_ro' (ro_eq (ro_ld_ptr h14_ty24 rfl mo1_2 (up_m rfl s4_3) (by first | exact Nat.le_of_ble_eq_true rfl | omega | (simp only [lnS] <;> omega) | (simp <;> omega))) (by first | (simp only [packA_t, packA_f, iE, bE, setAt, cellsA, Value.cells, map_vc, map_vn, Nat.reduceAdd, qS, tE, one_tE, app_m] <;> rfl) | rfl)) trivial rfl ?_
  refine al_ro' (ro_lit h14_sl43 (evP_cons (up_m rfl up_h) (evP_cons up_h evP_nil)) rfl rfl rfl rfl) trivial rfl ?_
  refine al_ro' (ro_call (evL_cons up_h evL_nil) rfl ((right_ok [u, v] (by simp)).mono (fun q h => h.trans (by rw [r1]))) h14_hcf59) trivial rfl ?_
  refine al_ro' (ro_move (u4 rfl s2_3)) trivial rfl ?_
  refine al_ro' (ro_call (evL_cons up_h (evL_cons ev_c (evL_cons ev_c evL_nil))) rfl (sWithin_ok _ _ _) h14_hcf63) trivial rfl ?_
  refine al_ro' (ro_call (evL_cons up_h (evL_cons ev_c evL_nil)) rfl (sUnless_ok _ _) h14_hcf58) trivial rfl ?_
  refine al_ro' (ro_lit h14_sl146 (evP_cons (up_m rfl (u2 rfl up_h)) (evP_cons up_h evP_nil)) rfl rfl rfl rfl) trivial rfl ?_
  refine al_ro' (ro_call (evL_cons up_h evL_nil) rfl ((sFirst_ok [_, _] (by simp)).mono (fun q h => h.trans (by rw [r3]))) h14_hcf56) trivial rfl ?_
  refine al_ro' (ro_assign up_h) trivial rfl ?_
  refine al_end (fun e_4 he_4 => ?_)
  have s2_4 := ef 2 he_4 (u2 rfl (u8 rfl s2_3))
  have s3_4 := ef 3 he_4 (u2 rfl (u8 rfl s3_3))
  have s4_4 := ef 4 he_4 (u2 rfl (u8 rfl s4_3))
  have s8_4 := ef 8 he_4 up_h
  clear he_4 s2_3 s3_3 s4_3
  refine then_n ?_
  refine aw_seq ?_
  refine aw_text (by kernel_rfl) ?_
  refine al_ro' (ro_move s8_4) trivial rfl ?_
  refine al_ro' (ro_neq up_h ev_c) trivial rfl ?_
  refine al_end (fun e_5 he_5 => ?_)
  have s2_5 := ef 2 he_5 (u2 rfl s2_4)
  have s3_5 := ef 3 he_5 (u2 rfl s3_4)
  have s4_5 := ef 4 he_5 (u2 rfl s4_4)
  have s8_5 := ef 8 he_5 (u2 rfl s8_4)
  have s23_5 := ef 23 he_5 up_h
  clear he_5 s2_4 s3_4 s4_4 s8_4
  refine then_n ?_
  refine aw_case s23_5 (fun hq_6 => ?_) (fun hq_6 => ?_)
  · (first | replace hq_6 := bnt hq_6 | replace hq_6 := bnf hq_6 | replace hq_6 := bt hq_6 | replace hq_6 := bf hq_6 | replace hq_6 := bt' hq_6 | replace hq_6 := bf' hq_6 | skip)
    first
    | (cases hq_6; done) | (exfalso; omega)
    | (
       refine aw_seq ?_
       refine aw_text (by kernel_rfl) ?_
       refine al_ro' (ro_move s8_5) trivial rfl ?_
       refine al_ro' (ro_assign ev_c) trivial rfl ?_
       refine al_ro' (ro_assign (up_m rfl up_h)) trivial rfl ?_
       refine al_end (fun e_7 he_7 => ?_)
       have s6_7 := ef 6 he_7 (up_m rfl up_h)
       have s7_7 := ef 7 he_7 up_h
       clear he_7 s23_5 s2_5 s3_5 s4_5 s8_5
       refine then_n ?_
       refine aw_ret ?_
       refine then_r ?_
       refine ret2 (.inr rfl) (by kernel_rfl) (resV_tmp s6_7) (resV_tmp s7_7) (.nil 2) (.ro _ rfl) ?_
       clear s6_7 s7_7 mo1_2 mo0_2 ml_2
       (rw [p3, show i.toNat = n.toNat by omega]))
  · (first | replace hq_6 := bnt hq_6 | replace hq_6 := bnf hq_6 | replace hq_6 := bt hq_6 | replace hq_6 := bf hq_6 | replace hq_6 := bt' hq_6 | replace hq_6 := bf' hq_6 | skip)
    first
    | (cases hq_6; done) | (exfalso; omega)
    | (
       refine aw_skip ?_
       refine then_n ?_
       refine aw_seq ?_
       refine aw_text (by kernel_rfl) ?_
       refine al_ro' (ro_eq (ro_ld_ptr h14_ty24 rfl mo1_2 s4_5 (by first | exact Nat.le_of_ble_eq_true rfl | omega | (simp only [lnS] <;> omega) | (simp <;> omega))) (by first | (simp only [packA_t, packA_f, iE, bE, setAt, cellsA, Value.cells, map_vc, map_vn, Nat.reduceAdd, qS, tE, one_tE, app_m] <;> rfl) | rfl)) trivial rfl ?_
       refine al_ro' (ro_eq (ro_ld_ptr h14_ty24 rfl mo0_2 (up_m rfl s3_5) (by first | exact Nat.le_of_ble_eq_true rfl | omega | (simp only [lnS] <;> omega) | (simp <;> omega))) (by first | (simp only [packA_t, packA_f, iE, bE, setAt, cellsA, Value.cells, map_vc, map_vn, Nat.reduceAdd, qS, tE, one_tE, app_m] <;> rfl) | rfl)) trivial rfl ?_
       refine al_ro' (ro_call (evL_cons (up_m rfl up_h) (evL_cons up_h evL_nil)) rfl (less_ok v u (hv.mono (by decide)) (hu.mono (by decide))) h14_hcf66) trivial rfl ?_
       refine al_stm (st_alloc h14_az96 rfl ml_2) trivial rfl (fun m_8 hm_8 => ?_)
       have mo2_8 := m_push hm_8 ml_2
       (try simp only [packA_t, packA_f, iE, bE, setAt, cellsA, Value.cells, map_vc, map_vn, Nat.reduceAdd, qS, tE, one_tE, app_m] at mo2_8)
       have mo1_8 := m_push_o hm_8 mo1_2
       have mo0_8 := m_push_o hm_8 mo0_2
       have ml_8 := m_push_l hm_8 ml_2
       have ml_8 : _ = 3 := ml_8
       clear hm_8 mo1_2 mo0_2
       refine al_stm (st_store up_h (up_m rfl up_h) rfl rfl mo2_8 h14_sz96 rfl (by first | exact Nat.le_of_ble_eq_true rfl | omega | (simp only [lnS] <;> omega) | (simp <;> omega))) trivial rfl (fun m_9 hm_9 => ?_)
       have mo2_9 := m_set hm_9 mo2_8
       (try simp only [packA_t, packA_f, iE, bE, setAt, cellsA, Value.cells, map_vc, map_vn, Nat.reduceAdd, qS, tE, one_tE, app_m] at mo2_9)
       have mo1_9 := m_set_o hm_9 mo1_8 (by decide)
       have mo0_9 := m_set_o hm_9 mo0_8 (by decide)
       have ml_9 := m_set_l hm_9 ml_8
       clear hm_9 mo2_8 mo1_8 mo0_8
       refine al_end (fun e_10 he_10 => ?_)
       have s2_10 := ef 2 he_10 (up_n (u4 rfl s2_5))
       have s3_10 := ef 3 he_10 (up_n (u4 rfl s3_5))
       have s9_10 := ef 9 he_10 (up_n up_h)
       clear he_10 s23_5 s2_5 s3_5 s4_5 s8_5
       refine then_n ?_
       refine aw_seq ?_
       refine aw_text (by kernel_rfl) ?_
       refine al_ro' (ro_assign ev_c) trivial rfl ?_
       refine al_end (fun e_11 he_11 => ?_)
       have s2_11 := ef 2 he_11 (up_m rfl s2_10)
       have s3_11 := ef 3 he_11 (up_m rfl s3_10)
       have s9_11 := ef 9 he_11 (up_m rfl s9_10)
       have s10_11 := ef 10 he_11 up_h
       clear he_11 s2_10 s3_10 s9_10
       refine then_n ?_
       refine aw_seq ?_
       refine aw_seq ?_
       refine aw_text (by kernel_rfl) ?_
       refine al_ro' (ro_move s2_11) trivial rfl ?_
       refine al_ro' (ro_move ev_c) trivial rfl ?_
       refine al_end (fun e_12 he_12 => ?_)
       have s2_12 := ef 2 he_12 (u2 rfl s2_11)
       have s3_12 := ef 3 he_12 (u2 rfl s3_11)
       have s9_12 := ef 9 he_12 (u2 rfl s9_11)
       have s10_12 := ef 10 he_12 (u2 rfl s10_11)
       have s28_12 := ef 28 he_12 (up_m rfl up_h)
       have s29_12 := ef 29 he_12 up_h
       clear he_12 s10_11 s2_11 s3_11 s9_11
       refine then_n ?_
       refine aw_block ?_
       refine aw_adopt 24 2 s10_12 ml_9 (fun m_13 e_13 hm_13 he_13 => ?_)
       have mo3_13 := m_push hm_13 ml_9
       have mo2_13 := m_push_o hm_13 mo2_9
       have mo1_13 := m_push_o hm_13 mo1_9
       have mo0_13 := m_push_o hm_13 mo0_9
       have ml_13 := m_push_l hm_13 ml_9
       have ml_13 : _ = 4 := ml_13
       have s2_13 : evA e_13 (.tmp 2) = _ := (congrArg (fun q => evA q (.tmp 2)) he_13).trans (up_m rfl s2_12)
       have s3_13 : evA e_13 (.tmp 3) = _ := (congrArg (fun q => evA q (.tmp 3)) he_13).trans (up_m rfl s3_12)
       have s9_13 : evA e_13 (.tmp 9) = _ := (congrArg (fun q => evA q (.tmp 9)) he_13).trans (up_m rfl s9_12)
       have s10_13 : evA e_13 (.tmp 10) = _ := (congrArg (fun q => evA q (.tmp 10)) he_13).trans up_h
       have s28_13 : evA e_13 (.tmp 28) = _ := (congrArg (fun q => evA q (.tmp 28)) he_13).trans (up_m rfl s28_12)
       have s29_13 : evA e_13 (.tmp 29) = _ := (congrArg (fun q => evA q (.tmp 29)) he_13).trans (up_m rfl s29_12)
       clear hm_13 he_13
       refine aw_loop (S := (Int × List V2)) (fun s e mem => match s with | ⟨i, xs⟩ => (evA e (.tmp 29) = .v (.int .i64 i)) ∧ (evA e (.tmp 2) = evA e_13 (.tmp 2)) ∧ (evA e (.tmp 3) = evA e_13 (.tmp 3)) ∧ (evA e (.tmp 9) = evA e_13 (.tmp 9)) ∧ (evA e (.tmp 28) = evA e_13 (.tmp 28)) ∧ (mem[2]? = m_13[2]?) ∧ (mem[1]? = m_13[1]?) ∧ (mem[0]? = m_13[0]?) ∧ (∃ j, evA e (.tmp 10) = .own j ∧ mem[j]? = some (.row 24 2 (xs.map tE)) ∧ j ≠ 2 ∧ j ≠ 1 ∧ j ≠ 0) ∧ (∃ n, mem.length = n ∧ 4 ≤ n) ∧ ((0 ≤ i ∧ i ≤ n ∧ xs = hanV u v n i.toNat))) (fun s => match s with | ⟨i, xs⟩ => (n - i).toNat) ⟨_, []⟩ ⟨s29_13, rfl, rfl, rfl, rfl, rfl, rfl, rfl, ⟨_, s10_13, mo3_13, (by decide), (by decide), (by decide)⟩, ⟨_, ml_13, Nat.le_refl _⟩, ?_⟩ ?_
       · (exact ⟨by omega, by omega, rfl⟩)
       · rintro ⟨i, xs⟩ e_14 m_14 ⟨s29_14, k2_14, k3_14, k9_14, k28_14, mk2_14, mk1_14, mk0_14, ⟨j10_14, s10_14, mo_j10_14, nj10_2_14, nj10_1_14, nj10_0_14⟩, ⟨n_14, ml_14, hn_14⟩, hinv⟩
         have s2_14 := k2_14.trans s2_13
         have s3_14 := k3_14.trans s3_13
         have s9_14 := k9_14.trans s9_13
         have s28_14 := k28_14.trans s28_13
         have mo2_14 := mk2_14.trans mo2_13
         have mo1_14 := mk1_14.trans mo1_13
         have mo0_14 := mk0_14.trans mo0_13
         have jl10_14 := m_lt mo_j10_14 ml_14
         (obtain ⟨p1, p2, p3⟩ := hinv; have hxl : xs.length = i.toNat := (by rw [p3, hanV_len]); have hvu : Bd 1000000000 (subV v u) := (by simp only [Bd, subV]; omega))
         refine aw_seq ?_
         refine aw_text (by kernel_rfl) ?_
         refine al_ro' (ro_lss s29_14 s28_14) trivial rfl ?_
         refine al_end (fun e_15 he_15 => ?_)
         have s2_15 := ef 2 he_15 (up_m rfl s2_14)
         have s3_15 := ef 3 he_15 (up_m rfl s3_14)
         have s9_15 := ef 9 he_15 (up_m rfl s9_14)
         have s10_15 := ef 10 he_15 (up_m rfl s10_14)
         have s28_15 := ef 28 he_15 (up_m rfl s28_14)
         have s29_15 := ef 29 he_15 (up_m rfl s29_14)
         have s30_15 := ef 30 he_15 up_h
         clear he_15 s10_14 s28_14 s29_14 s2_14 s3_14 s9_14
         refine then_n ?_
         refine aw_seq ?_
         refine aw_case s30_15 (fun hq_16 => ?_) (fun hq_16 => ?_)
         · (first | replace hq_16 := bnt hq_16 | replace hq_16 := bnf hq_16 | replace hq_16 := bt hq_16 | replace hq_16 := bf hq_16 | replace hq_16 := bt' hq_16 | replace hq_16 := bf' hq_16 | skip)
           first
           | (cases hq_16; done) | (exfalso; omega)
           | (
              (have m1 := mulBd (A := 20) (B := 2000) (a := i + 1) (b := v.1 - u.1) (by omega) (by omega); have m2 := mulBd (A := 20) (B := 2000) (a := i + 1) (b := v.2 - u.2) (by omega) (by omega); have hpt : Bd 1000000000 ((i + 1) * (v.1 - u.1) / n, (i + 1) * (v.2 - u.2) / n) := han_pt hn.1 (by omega) (by omega) m1 m2)
              refine aw_skip ?_
              refine then_n ?_
              refine aw_seq ?_
              refine aw_block ?_
              refine aw_seq ?_
              refine aw_text (by kernel_rfl) ?_
              refine al_ro' (ro_move s29_15) trivial rfl ?_
              refine al_ro' (ro_assign up_h) trivial rfl ?_
              refine al_end (fun e_17 he_17 => ?_)
              have s2_17 := ef 2 he_17 (u2 rfl s2_15)
              have s3_17 := ef 3 he_17 (u2 rfl s3_15)
              have s9_17 := ef 9 he_17 (u2 rfl s9_15)
              have s10_17 := ef 10 he_17 (u2 rfl s10_15)
              have s11_17 := ef 11 he_17 up_h
              have s28_17 := ef 28 he_17 (u2 rfl s28_15)
              have s29_17 := ef 29 he_17 (u2 rfl s29_15)
              clear he_17 s10_15 s28_15 s29_15 s2_15 s30_15 s3_15 s9_15
              refine then_n ?_
              refine aw_seq ?_
              refine aw_text (by kernel_rfl) ?_
              refine al_ro' (ro_eq (ro_ld_ptr h14_ty96 rfl mo2_14 s9_17 (by first | exact Nat.le_of_ble_eq_true rfl | omega | (simp only [lnS] <;> omega) | (simp <;> omega))) (by first | (simp only [packA_t, packA_f, iE, bE, setAt, cellsA, Value.cells, map_vc, map_vn, Nat.reduceAdd, qS, tE, one_tE, app_m] <;> rfl) | rfl)) trivial rfl ?_
              refine al_ro' (ro_move (up_m rfl s11_17)) trivial rfl ?_
              first | (refine al_ro' (ro_add' up_h ev_c ?_) trivial rfl ?_; · (unfold In64; omega)) | refine al_ro' (ro_add up_h ev_c) trivial rfl ?_
              refine al_ro' (ro_call (evL_cons (u2 rfl up_h) (evL_cons up_h evL_nil)) rfl (by_ok (subV v u) hvu (i + 1) (by omega)) h14_hcf49) trivial rfl ?_
              refine al_stm (st_alloc h14_az96 rfl ml_14) trivial rfl (fun m_18 hm_18 => ?_)
              have mon_14_18 := m_push hm_18 ml_14
              (try simp only [packA_t, packA_f, iE, bE, setAt, cellsA, Value.cells, map_vc, map_vn, Nat.reduceAdd, qS, tE, one_tE, app_m] at mon_14_18)
              have mo2_18 := m_push_o hm_18 mo2_14
              have mo1_18 := m_push_o hm_18 mo1_14
              have mo0_18 := m_push_o hm_18 mo0_14
              have moj10_14_18 := m_push_o hm_18 mo_j10_14
              have ml_18 := m_push_l hm_18 ml_14
              clear hm_18 mo2_14 mo1_14 mo0_14 mo_j10_14
              refine al_stm (st_store up_h (up_m rfl up_h) rfl rfl mon_14_18 h14_sz96 rfl (by first | exact Nat.le_of_ble_eq_true rfl | omega | (simp only [lnS] <;> omega) | (simp <;> omega))) trivial rfl (fun m_19 hm_19 => ?_)
              have mon_14_19 := m_set hm_19 mon_14_18
              (try simp only [packA_t, packA_f, iE, bE, setAt, cellsA, Value.cells, map_vc, map_vn, Nat.reduceAdd, qS, tE, one_tE, app_m] at mon_14_19)
              have mo2_19 := m_set_o hm_19 mo2_18 (by omega)
              have mo1_19 := m_set_o hm_19 mo1_18 (by omega)
              have mo0_19 := m_set_o hm_19 mo0_18 (by omega)
              have moj10_14_19 := m_set_o hm_19 moj10_14_18 (by omega)
              have ml_19 := m_set_l hm_19 ml_18
              clear hm_19 mon_14_18 mo2_18 mo1_18 mo0_18 moj10_14_18
              refine al_end (fun e_20 he_20 => ?_)
              have s2_20 := ef 2 he_20 (up_n (up_m rfl (u4 rfl s2_17)))
              have s3_20 := ef 3 he_20 (up_n (up_m rfl (u4 rfl s3_17)))
              have s9_20 := ef 9 he_20 (up_n (up_m rfl (u4 rfl s9_17)))
              have s10_20 := ef 10 he_20 (up_n (up_m rfl (u4 rfl s10_17)))
              have s12_20 := ef 12 he_20 (up_n up_h)
              have s28_20 := ef 28 he_20 (up_n (up_m rfl (u4 rfl s28_17)))
              have s29_20 := ef 29 he_20 (up_n (up_m rfl (u4 rfl s29_17)))
              clear he_20 s10_17 s11_17 s28_17 s29_17 s2_17 s3_17 s9_17
              refine then_n ?_
              refine aw_draw 13 (by kernel_rfl) (by kernel_rfl) (by kernel_rfl) (by kernel_rfl) ?_
              refine ds_ro' (ro_move s10_20) trivial rfl ?_
              refine ds_ro' (ro_eq (ro_ld_ptr h14_ty24 rfl mo0_19 (up_m rfl s3_20) (by first | exact Nat.le_of_ble_eq_true rfl | omega | (simp only [lnS] <;> omega) | (simp <;> omega))) (by first | (simp only [packA_t, packA_f, iE, bE, setAt, cellsA, Value.cells, map_vc, map_vn, Nat.reduceAdd, qS, tE, one_tE, app_m] <;> rfl) | rfl)) trivial rfl ?_
              refine ds_ro' (ro_fld_ptr h14_fl96_0 rfl (u2 rfl s12_20)) trivial rfl ?_
              refine ds_ro' (ro_eq (ro_ld_ptr h14_ty3 rfl mon_14_19 up_h (by first | exact Nat.le_of_ble_eq_true rfl | omega | (simp only [lnS] <;> omega) | (simp <;> omega))) (by first | (simp only [packA_t, packA_f, iE, bE, setAt, cellsA, Value.cells, map_vc, map_vn, Nat.reduceAdd, qS, tE, one_tE, app_m] <;> rfl) | rfl)) trivial rfl ?_
              refine ds_ro' (ro_move (u4 rfl s2_20)) trivial rfl ?_
              refine ds_ro' (ro_call (evL_cons (up_m rfl up_h) (evL_cons up_h evL_nil)) rfl (floor_ok ((i + 1) * (v.1 - u.1)) n (by omega) (by omega)) h14_hcf67) trivial rfl ?_
              refine ds_ro' (ro_fld_ptr h14_fl96_1 rfl (u2 rfl (u4 rfl s12_20))) trivial rfl ?_
              refine ds_ro' (ro_eq (ro_ld_ptr h14_ty3 rfl mon_14_19 up_h (by first | exact Nat.le_of_ble_eq_true rfl | omega | (simp only [lnS] <;> omega) | (simp <;> omega))) (by first | (simp only [packA_t, packA_f, iE, bE, setAt, cellsA, Value.cells, map_vc, map_vn, Nat.reduceAdd, qS, tE, one_tE, app_m] <;> rfl) | rfl)) trivial rfl ?_
              refine ds_ro' (ro_move (u8 rfl s2_20)) trivial rfl ?_
              refine ds_ro' (ro_call (evL_cons (up_m rfl up_h) (evL_cons up_h evL_nil)) rfl (floor_ok ((i + 1) * (v.2 - u.2)) n (by omega) (by omega)) h14_hcf67) trivial rfl ?_
              refine ds_ro' (ro_build (evP_cons (u4 rfl up_h) (evP_cons up_h evP_nil)) h14_bz96 h14_bu96 h14_bp96 rfl) trivial rfl ?_
              refine ds_ro' (ro_call (evL_cons (up_m rfl (u8 rfl up_h)) (evL_cons up_h evL_nil)) rfl (plus_ok u (((i + 1) * (v.1 - u.1) / n, (i + 1) * (v.2 - u.2) / n)) (hu.mono (by decide)) hpt) h14_hcf60) trivial rfl ?_
              refine ds_ro' (ro_lit h14_sl43 (evP_cons up_h evP_nil) rfl rfl rfl rfl) trivial rfl ?_
              refine ds_nil ?_
              refine al_stm (st_app h14_sl43 rfl ml_19 moj10_14_19 (u4 rfl (u8 rfl up_h)) up_h (by first | rfl | (simp [oneA]; done)) (by first | omega | (simp only [lnS] <;> omega) | (simp <;> omega))) trivial rfl (fun m_21 hm_21 => ?_)
              have mon_14_1_21 := m_swap hm_21 ml_19
              (try simp only [packA_t, packA_f, iE, bE, setAt, cellsA, Value.cells, map_vc, map_vn, Nat.reduceAdd, qS, tE, one_tE, app_m] at mon_14_1_21)
              have mon_14_21 := m_swap_o hm_21 mon_14_19 (by omega)
              have mo2_21 := m_swap_o hm_21 mo2_19 (by omega)
              have mo1_21 := m_swap_o hm_21 mo1_19 (by omega)
              have mo0_21 := m_swap_o hm_21 mo0_19 (by omega)
              have ml_21 := m_swap_l hm_21 ml_19
              clear hm_21 mon_14_19 mo2_19 mo1_19 mo0_19 moj10_14_19
              refine al_ro' (ro_assign up_h) trivial rfl ?_
              refine al_end (fun e_22 he_22 => ?_)
              have s2_22 := ef 2 he_22 (up_m rfl (u2 rfl (u4 rfl (u8 rfl s2_20))))
              have s3_22 := ef 3 he_22 (up_m rfl (u2 rfl (u4 rfl (u8 rfl s3_20))))
              have s9_22 := ef 9 he_22 (up_m rfl (u2 rfl (u4 rfl (u8 rfl s9_20))))
              have s10_22 := ef 10 he_22 up_h
              have s28_22 := ef 28 he_22 (up_m rfl (u2 rfl (u4 rfl (u8 rfl s28_20))))
              have s29_22 := ef 29 he_22 (up_m rfl (u2 rfl (u4 rfl (u8 rfl s29_20))))
              clear he_22 s10_20 s12_20 s28_20 s29_20 s2_20 s3_20 s9_20
              refine block_n ?_
              refine then_n ?_
              refine aw_text (by kernel_rfl) ?_
              first | (refine al_ro' (ro_add' s29_22 ev_c ?_) trivial rfl ?_; · (unfold In64; omega)) | refine al_ro' (ro_add s29_22 ev_c) trivial rfl ?_
              refine al_ro' (ro_move up_h) trivial rfl ?_
              refine al_end (fun e_23 he_23 => ?_)
              have s2_23 := ef 2 he_23 (u2 rfl s2_22)
              have s3_23 := ef 3 he_23 (u2 rfl s3_22)
              have s9_23 := ef 9 he_23 (u2 rfl s9_22)
              have s10_23 := ef 10 he_23 (u2 rfl s10_22)
              have s28_23 := ef 28 he_23 (u2 rfl s28_22)
              have s29_23 := ef 29 he_23 up_h
              clear he_23 s10_22 s28_22 s29_22 s2_22 s3_22 s9_22
              refine then_n ?_
              refine ⟨⟨_, _⟩, ⟨s29_23, (s2_23.trans s2_13.symm), (s3_23.trans s3_13.symm), (s9_23.trans s9_13.symm), (s28_23.trans s28_13.symm), (mo2_21.trans mo2_13.symm), (mo1_21.trans mo1_13.symm), (mo0_21.trans mo0_13.symm), ⟨_, s10_23, mon_14_1_21, (by omega), (by omega), (by omega)⟩, ⟨_, ml_21, by omega⟩, ?_⟩, ?_⟩
              · (refine ⟨by omega, by omega, ?_⟩; rw [show (i + 1).toNat = i.toNat + 1 by omega, hanV_succ, ← p3]; simp [hanAt, Int.toNat_of_nonneg p1, addV])
              · ((try dsimp only); omega))
         · (first | replace hq_16 := bnt hq_16 | replace hq_16 := bnf hq_16 | replace hq_16 := bt hq_16 | replace hq_16 := bf hq_16 | replace hq_16 := bt' hq_16 | replace hq_16 := bf' hq_16 | skip)
           first
           | (cases hq_16; done) | (exfalso; omega)
           | (
              refine aw_exit ?_
              refine then_x ?_
              refine then_x ?_
              refine block_hit ?_
              refine then_n ?_
              refine aw_seq ?_
              refine aw_text (by kernel_rfl) ?_
              refine al_ro' (ro_move s10_15) trivial rfl ?_
              refine al_ro' (ro_assign up_h) trivial rfl ?_
              refine al_ro' (ro_assign ev_c) trivial rfl ?_
              refine al_end (fun e_24 he_24 => ?_)
              have s6_24 := ef 6 he_24 (up_m rfl up_h)
              have s7_24 := ef 7 he_24 up_h
              clear he_24 s10_15 s28_15 s29_15 s2_15 s30_15 s3_15 s9_15
              refine then_n ?_
              refine aw_ret ?_
              refine ret2 (.inr rfl) (by kernel_rfl) (resV_tmp s6_24) (resV_tmp s7_24) (.own _ _ _ _ mo_j10_14) (.ro _ rfl) ?_
              clear s6_24 s7_24 mo2_14 mo1_14 mo0_14 mo_j10_14 ml_14
              (rw [p3, show i.toNat = n.toNat by omega])))
end Go.Proofs.YtgiiedpambimoaaDoor

/- The law of chapter 3: handed on without a step. The variables of the package hold what the text lays. -/
namespace Go.Proofs.YtgiiedpambimoaaDoor
open Go Go.RowKit Go.Proofs
set_option linter.unusedSimpArgs false
set_option linter.unusedVariables false
theorem h15_az64 : (Tryd.prog.info? 64).bind (·.zero) = some (.agg #[.slice none 0 0]) := by kernel_rfl
theorem h15_bz64 : (Tryd.prog.info? 64).bind (·.zero) = some (.agg #[.slice none 0 0]) := by kernel_rfl
theorem h15_bu64 : Tryd.prog.underlying 64 = some (.struct (fsOf Tryd.prog 64)) := by kernel_rfl
theorem h15_bp64 : ∀ w, ((fsOf Tryd.prog 64).mapM fun f => Prod.mk f.offset <$> sizeOf f.type : Sem (Array (Nat × Nat))).run Tryd.prog w = .ok (#[(0, 1)]) w := fun _ => by kernel_rfl
theorem h15_fl64_0 : FldIs Tryd.prog 64 0 0 false 1 := by unfold FldIs; kernel_rfl
theorem h15_hcf70 : ∀ args w, (callFunc 70 args).run Tryd.prog w = .ok (.enter 70 args) w := fun _ _ => by kernel_rfl
theorem h15_sl46 : SlIs Tryd.prog 46 3 1 8 (.int .i64 0) := ⟨by kernel_rfl, by kernel_rfl, by kernel_rfl⟩
theorem h15_sz64 : (Tryd.prog.info? 64).map (·.size) = some 1 := by kernel_rfl
theorem h15_ty46 : TyIs Tryd.prog 46 false 1 := ⟨by kernel_rfl, by kernel_rfl⟩
theorem h15_ty64 : TyIs Tryd.prog 64 true 1 := ⟨by kernel_rfl, by kernel_rfl⟩

/-- The force, by the parts. -/
theorem force_det (u f : V2) : (prodV u f).2 = u.2 * f.1 - u.1 * f.2 := by simp only [prodV, mulV, conjV]; grind
theorem force_rot (u f : V2) : (prodV (rotV u) (rotV f)).2 = (prodV u f).2 := by rw [force_det, force_det]; simp only [rotV]; grind
theorem force_turnN (u f : V2) : ∀ n : Nat, (prodV (turnN u n) (turnN f n)).2 = (prodV u f).2
  | 0 => rfl
  | n + 1 => by rw [turnN, turnN, force_rot, force_turnN u f n]
theorem force_turn (u f : V2) (z : Int) : (prodV (turnV u z) (turnV f z)).2 = (prodV u f).2 := force_turnN u f _
theorem size_mul {a b M : Int} (h : -M ≤ a ∧ a ≤ M) : -(M * sizeW b) ≤ a * b ∧ a * b ≤ M * sizeW b := by
  have := mulBd h (B := sizeW b) (b := b) (by unfold sizeW; omega)
  exact this
/-- A step's force is near to that at the begin. -/
theorem han_near {u v f : V2} {n : Int} (hn : 1 ≤ n) (h : (prodV v f).2 = (prodV u f).2) (i : Nat) : -(sizeW f.1 + sizeW f.2) ≤ (prodV (hanAt u v n i) f).2 - (prodV u f).2 ∧ (prodV (hanAt u v n i) f).2 - (prodV u f).2 ≤ sizeW f.1 + sizeW f.2 := by
  rw [force_det, force_det] at h
  rw [force_det, force_det]
  unfold hanAt
  simp only
  have a1 := Int.emod_add_mul_ediv (((i : Int) + 1) * (v.1 - u.1)) n
  have a2 := Int.emod_nonneg (((i : Int) + 1) * (v.1 - u.1)) (show n ≠ 0 by omega)
  have a3 := Int.emod_lt_of_pos (((i : Int) + 1) * (v.1 - u.1)) (show 0 < n by omega)
  have b1 := Int.emod_add_mul_ediv (((i : Int) + 1) * (v.2 - u.2)) n
  have b2 := Int.emod_nonneg (((i : Int) + 1) * (v.2 - u.2)) (show n ≠ 0 by omega)
  have b3 := Int.emod_lt_of_pos (((i : Int) + 1) * (v.2 - u.2)) (show 0 < n by omega)
  generalize ((i : Int) + 1) * (v.1 - u.1) / n = x at *
  generalize ((i : Int) + 1) * (v.2 - u.2) / n = y at *
  generalize ((i : Int) + 1) * (v.1 - u.1) % n = r at *
  generalize ((i : Int) + 1) * (v.2 - u.2) % n = t at *
  have e : n * ((u.2 + y) * f.1 - (u.1 + x) * f.2 - (u.2 * f.1 - u.1 * f.2)) = r * f.2 - t * f.1 := by
    have e1 : n * ((u.2 + y) * f.1 - (u.1 + x) * f.2 - (u.2 * f.1 - u.1 * f.2)) = (n * y) * f.1 - (n * x) * f.2 := by grind
    have e2 : n * y = ((i : Int) + 1) * (v.2 - u.2) - t := by omega
    have e3 : n * x = ((i : Int) + 1) * (v.1 - u.1) - r := by omega
    rw [e1, e2, e3]
    have e4 : (((i : Int) + 1) * (v.2 - u.2) - t) * f.1 - (((i : Int) + 1) * (v.1 - u.1) - r) * f.2 = ((i : Int) + 1) * ((v.2 * f.1 - v.1 * f.2) - (u.2 * f.1 - u.1 * f.2)) + (r * f.2 - t * f.1) := by grind
    rw [e4, h, Int.sub_self, Int.mul_zero, Int.zero_add]
  generalize (u.2 + y) * f.1 - (u.1 + x) * f.2 - (u.2 * f.1 - u.1 * f.2) = g at *
  have c1 := size_mul (a := r) (b := f.2) (M := n) (by omega)
  have c2 := size_mul (a := t) (b := f.1) (M := n) (by omega)
  have c3 : n * g ≤ n * (sizeW f.1 + sizeW f.2) := by rw [Int.mul_add]; omega
  have c4 : n * (-g) ≤ n * (sizeW f.1 + sizeW f.2) := by rw [Int.mul_add, Int.mul_neg]; omega
  have d1 := Int.le_of_mul_le_mul_left c3 (show 0 < n by omega)
  have d2 := Int.le_of_mul_le_mul_left c4 (show 0 < n by omega)
  omega
theorem hanV_at (u v : V2) (n : Int) (k i : Nat) (hi : i < k) : (hanV u v n k).getD i default = hanAt u v n i := by
  simp [hanV, List.getD_eq_getElem?_getD, List.getElem?_range hi]
set_option maxRecDepth 100000 in
set_option maxHeartbeats 1000000 in
theorem copyInts_ok (xs : List Int) (hc : xs.length ≤ 1000000) : FnOk Tryd.prog 70 [.row 1 (xs.map iE)] (fun q => q = .row 1 (xs.map iE)) := by
  refine fnOk_of (fn := Tryd.f70) 6 (by kernel_rfl) rfl (by kernel_rfl) (Nat.le_of_ble_eq_true rfl) ?_
  intro e_0 m_0 hA hm_0
  have s0_0 : evA e_0 (.tmp 0) = _ := hA 0 _ rfl
  have ml_0 : m_0.length = 0 := by rw [hm_0]; rfl
  clear hA hm_0
  refine aw_seq ?_
  refine aw_text (by kernel_rfl) ?_
  refine al_ro' (ro_assign ev_c) trivial rfl ?_
  refine al_end (fun e_1 he_1 => ?_)
  have s0_1 := ef 0 he_1 (up_m rfl s0_0)
  clear he_1 s0_0
  refine then_n ?_
  refine aw_seq ?_
  refine aw_text (by kernel_rfl) ?_
  refine al_ro' (ro_lit0 h15_sl46) trivial rfl ?_
  refine al_ro' (ro_move (up_m rfl s0_1)) trivial rfl ?_
  refine al_ro' (ro_ape h15_sl46 rfl (up_m rfl up_h) up_h (by first | omega | (simp only [lnS] <;> omega) | (simp <;> omega))) trivial rfl ?_
  refine al_ro' (ro_assign up_h) trivial rfl ?_
  refine al_end (fun e_2 he_2 => ?_)
  have s2_2 := ef 2 he_2 up_h
  clear he_2 s0_1
  refine then_n ?_
  refine aw_ret ?_
  refine ret1 (.inr rfl) (by kernel_rfl) (resV_tmp s2_2) (.ro _ rfl) ?_
  clear s2_2  ml_0
  rfl
set_option maxRecDepth 100000 in
set_option maxHeartbeats 1000000 in
theorem copyTrack_ok (xs : List Int) (hc : xs.length ≤ 1000000) : FnOk Tryd.prog 31 [.agg [.row 1 (xs.map iE)]] (fun q => q = .agg [.row 1 (xs.map iE)]) := by
  refine fnOk_of (fn := Tryd.f31) 7 (by kernel_rfl) rfl (by kernel_rfl) (Nat.le_of_ble_eq_true rfl) ?_
  intro e_0 m_0 hA hm_0
  have s0_0 : evA e_0 (.tmp 0) = _ := hA 0 _ rfl
  have ml_0 : m_0.length = 0 := by rw [hm_0]; rfl
  clear hA hm_0
  refine aw_seq ?_
  refine aw_text (by kernel_rfl) ?_
  refine al_stm (st_box s0_0 rfl ml_0) trivial rfl (fun m_1 hm_1 => ?_)
  have mo0_1 := m_push hm_1 ml_0
  (try simp only [packA_t, packA_f, iE, bE, setAt, cellsA, Value.cells, map_vc, map_vn, Nat.reduceAdd, qS] at mo0_1)
  have ml_1 := m_push_l hm_1 ml_0
  have ml_1 : _ = 1 := ml_1
  clear hm_1
  refine al_stm (st_alloc h15_az64 rfl ml_1) trivial rfl (fun m_2 hm_2 => ?_)
  have mo1_2 := m_push hm_2 ml_1
  (try simp only [packA_t, packA_f, iE, bE, setAt, cellsA, Value.cells, map_vc, map_vn, Nat.reduceAdd, qS] at mo1_2)
  have mo0_2 := m_push_o hm_2 mo0_1
  have ml_2 := m_push_l hm_2 ml_1
  have ml_2 : _ = 2 := ml_2
  clear hm_2 mo0_1
  refine al_end (fun e_3 he_3 => ?_)
  have s1_3 := ef 1 he_3 (up_m rfl up_h)
  have s2_3 := ef 2 he_3 up_h
  clear he_3 s0_0
  refine then_n ?_
  refine aw_seq ?_
  refine aw_text (by kernel_rfl) ?_
  refine al_ro' (ro_fld_ptr h15_fl64_0 rfl s1_3) trivial rfl ?_
  refine al_ro' (ro_eq (ro_ld_ptr h15_ty46 rfl mo0_2 up_h (by first | exact Nat.le_of_ble_eq_true rfl | omega | (simp only [lnS] <;> omega) | (simp <;> omega))) (by first | (simp only [packA_t, packA_f, iE, bE, setAt, cellsA, Value.cells, map_vc, map_vn, Nat.reduceAdd, qS] <;> rfl) | rfl)) trivial rfl ?_
  refine al_ro' (ro_call (evL_cons up_h evL_nil) rfl (copyInts_ok xs hc) h15_hcf70) trivial rfl ?_
  refine al_ro' (ro_build (evP_cons up_h evP_nil) h15_bz64 h15_bu64 h15_bp64 rfl) trivial rfl ?_
  refine al_stm (st_store (u4 rfl s2_3) up_h rfl rfl mo1_2 h15_sz64 rfl (by first | exact Nat.le_of_ble_eq_true rfl | omega | (simp only [lnS] <;> omega) | (simp <;> omega))) trivial rfl (fun m_4 hm_4 => ?_)
  have mo1_4 := m_set hm_4 mo1_2
  (try simp only [packA_t, packA_f, iE, bE, setAt, cellsA, Value.cells, map_vc, map_vn, Nat.reduceAdd, qS] at mo1_4)
  have mo0_4 := m_set_o hm_4 mo0_2 (by decide)
  have ml_4 := m_set_l hm_4 ml_2
  clear hm_4 mo1_2 mo0_2
  refine al_end (fun e_5 he_5 => ?_)
  have s2_5 := ef 2 he_5 (up_n (u4 rfl s2_3))
  clear he_5 s1_3 s2_3
  refine then_n ?_
  refine aw_ret ?_
  refine ret1 (.inr rfl) (by kernel_rfl) (resV_cell s2_5 mo1_4 h15_ty64 (by first | exact Nat.le_of_ble_eq_true rfl | omega | (simp only [lnS] <;> omega) | (simp <;> omega)) (by simp)) (vw_r (.ro _ rfl)) ?_
  clear s2_5 mo1_4 mo0_4 ml_4
  rfl
theorem two_right {p q : Int} {l f : V2} (hp : 0 ≤ p ∧ p ≤ 500) (hq : 1 ≤ q ∧ q ≤ 500) (hl : Bd 1000 l) (hf : Bd 1000 f) : feeE [500, 500] p q [l, l] f = 0 ∧ fatR [500, 500] p q [l, l] f = q * (prodV l f).2 := by
  have h1 : opnE [500, 500] p q = 0 := by
    unfold opnE
    rw [if_pos (show trkE [500, 500] = 0 by decide +kernel)]
    rw [show (lenB q && decide (0 ≤ p)) = true by simp [lenB, withinB]; omega, decide_eq_true (show p ≤ sumI [500, 500] ([500, 500] : List Int).length - q by show p ≤ 0 + 500 + 500 - q; omega)]
    rfl
  have h2 : feeE [500, 500] p q [l, l] f = 0 := by
    unfold feeE
    rw [h1, bd_right (l := [l, l]) (by simp; exact hl.mono (by decide)), bd_right (l := [f]) (by simp; exact hf.mono (by decide))]
    rfl
  refine ⟨h2, ?_⟩
  unfold fatR
  rw [if_pos h2]
  show 0 + ovW [500, 500] p q 0 * (prodV l f).2 + ovW [500, 500] p q 1 * (prodV l f).2 = _
  have e : ovW [500, 500] p q 0 + ovW [500, 500] p q 1 = q := by
    show max 0 (min (0 + 500) (p + q) - max 0 p) + max 0 (min (0 + 500 + 500) (p + q) - max (0 + 500) p) = q
    omega
  rw [Int.zero_add, ← Int.add_mul, e]
theorem tur_right {v : V2} {z : Int} (hv : Bd 100000 v) (hz : 0 ≤ z ∧ z ≤ 100) : turE v z = 0 ∧ turR v z = turnV v z := by
  have h : turE v z = 0 := by
    unfold turE
    rw [bd_right (l := [v]) (by simpa using hv), show smallB z 1000000 = true by simp only [smallB, withinB, Bool.and_eq_true, decide_eq_true_eq]; omega]
    rfl
  refine ⟨h, ?_⟩
  unfold turR; rw [if_pos h]
end Go.Proofs.YtgiiedpambimoaaDoor

