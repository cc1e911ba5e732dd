/- The law of chapter 5 on other tracks: opposite and joined. No conditions on a program. -/
import Derived.Test.YtelgkjekpcfffaaK41
import Derived.Test.YtelgkjekpcfffaaK39
import Derived.Test.YtelgkjekpcfffaaK11
namespace Go.Proofs.Ytelgkjekpcfffaa
open Go Go.RowKit Go.Proofs
set_option linter.unusedSimpArgs false
set_option linter.unusedVariables false
theorem k42_az24 : (Try.prog.info? 24).bind (·.zero) = some (.agg #[.string ByteArray.empty, .slice none 0 0]) := by kernel_rfl
theorem k42_bz24 : (Try.prog.info? 24).bind (·.zero) = some (.agg #[.string ByteArray.empty, .slice none 0 0]) := by kernel_rfl
theorem k42_bu24 : Try.prog.underlying 24 = some (.struct (fsOf Try.prog 24)) := by kernel_rfl
theorem k42_bp24 : ∀ w, ((fsOf Try.prog 24).mapM fun f => Prod.mk f.offset <$> sizeOf f.type : Sem (Array (Nat × Nat))).run Try.prog w = .ok (#[(0, 1), (1, 1)]) w := fun _ => by kernel_rfl
theorem k42_fl24_1 : FldIs Try.prog 24 1 1 false 1 := by unfold FldIs; kernel_rfl
theorem k42_hcf15 : ∀ args w, (callFunc 15 args).run Try.prog w = .ok (.enter 15 args) w := fun _ _ => by kernel_rfl
theorem k42_hcf16 : ∀ args w, (callFunc 16 args).run Try.prog w = .ok (.enter 16 args) w := fun _ _ => by kernel_rfl
theorem k42_hcf18 : ∀ args w, (callFunc 18 args).run Try.prog w = .ok (.enter 18 args) w := fun _ _ => by kernel_rfl
theorem k42_hcf34 : ∀ args w, (callFunc 34 args).run Try.prog w = .ok (.enter 34 args) w := fun _ _ => by kernel_rfl
theorem k42_hcf42 : ∀ args w, (callFunc 42 args).run Try.prog w = .ok (.enter 42 args) w := fun _ _ => by kernel_rfl
theorem k42_hcf51 : ∀ args w, (callFunc 51 args).run Try.prog w = .ok (.enter 51 args) w := fun _ _ => by kernel_rfl
theorem k42_hcf52 : ∀ args w, (callFunc 52 args).run Try.prog w = .ok (.enter 52 args) w := fun _ _ => by kernel_rfl
theorem k42_hcf53 : ∀ args w, (callFunc 53 args).run Try.prog w = .ok (.enter 53 args) w := fun _ _ => by kernel_rfl
theorem k42_hcf54 : ∀ args w, (callFunc 54 args).run Try.prog w = .ok (.enter 54 args) w := fun _ _ => by kernel_rfl
theorem k42_hcf55 : ∀ args w, (callFunc 55 args).run Try.prog w = .ok (.enter 55 args) w := fun _ _ => by kernel_rfl
theorem k42_sl22 : SlIs Try.prog 22 66 4 32 (.agg #[.int .i64 0, .int .i64 0, .int .i64 0, .bool false]) := ⟨by kernel_rfl, by kernel_rfl, by kernel_rfl⟩
theorem k42_sl30 : SlIs Try.prog 30 3 1 8 (.int .i64 0) := ⟨by kernel_rfl, by kernel_rfl, by kernel_rfl⟩
theorem k42_sz24 : (Try.prog.info? 24).map (·.size) = some 2 := by kernel_rfl
theorem k42_ty22 : TyIs Try.prog 22 false 1 := ⟨by kernel_rfl, by kernel_rfl⟩
theorem k42_ty24 : TyIs Try.prog 24 true 2 := ⟨by kernel_rfl, by kernel_rfl⟩
theorem k42_ty3 : TyIs Try.prog 3 false 1 := ⟨by kernel_rfl, by kernel_rfl⟩

/-- Arguments that stand for less. -/
theorem FnOk.sub {P : Program} {f : FuncId} {args args' : List AV} {ψ : AV → Prop} (hc : FnOk P f args ψ) (hl : args'.length = args.length) (h : ∀ (pr : Nat → Prop) (w : World) (i : Nat) (a : AV) (x : Value), args[i]? = some a → ∃ a', args'[i]? = some a' ∧ (R0 pr w a' x → R0 pr w a x)) : FnOk P f args' ψ :=
  fun pr w vs h1 h2 => hc pr w vs (by omega) fun i a x ha hx => by
    obtain ⟨a', h3, h4⟩ := h pr w i a x ha
    exact h4 (h2 i a' x h3 hx)
theorem nil_tr {pr : Nat → Prop} {w : World} {s : Value} {x : Value} (h : R0 pr w (.agg [.v s, .v (.slice none 0 0)]) x) : R0 pr w (.agg [.v s, .row 4 []]) x := by
  cases h with
  | agg _ xs h1 h2 =>
    refine .agg _ xs (by simpa using h1) fun i a u ha hu => ?_
    match i, ha with
    | 0, ha => exact h2 0 a u (by simpa using ha) hu
    | 1, ha =>
      simp at ha; subst ha
      have := h2 1 _ u rfl hu
      cases this; exact .nil _ _ _
theorem same_none (na : ByteArray) (ps : List Piece) (hp : ps.length ≤ 1000000) (s : ByteArray) : FnOk Try.prog 53 [trA na ps, .agg [.v (.string s), .v (.slice none 0 0)]] (fun q => q = bA (samB na ps s [])) :=
  (rSame_ok na ps s [] hp (by simp)).sub rfl fun pr w i a x ha => by
    match i, ha with
    | 0, ha => cases ha; exact ⟨_, rfl, id⟩
    | 1, ha => cases ha; exact ⟨_, rfl, nil_tr⟩
def rvN (na : ByteArray) (ps : List Piece) : ByteArray := if (chk na ps).2 = 0 then na else ⟨#[]⟩
def rvQ (na : ByteArray) (ps : List Piece) : List Piece := if (chk na ps).2 = 0 then rvP ps else []
theorem reversed1_ok (nm : ByteArray) (ps : List Piece) (ha : nm.size ≤ 1000000000) (hp : ps.length ≤ 1000) : FnOk Try.prog 51 [trA nm ps] (fun q => q = .tuple [trA (rvN nm ps) (rvQ nm ps), iA (chk nm ps).2]) := reversed_ok nm ps ha hp
theorem flip_flip (p : Piece) : flipP (flipP p) = p := by cases p; simp [flipP]
theorem rvP_rvP (ps : List Piece) : rvP (rvP ps) = ps := by
  unfold rvP
  rw [← List.map_reverse, List.reverse_reverse, List.map_map]
  have : flipP ∘ flipP = id := funext flip_flip
  rw [this, List.map_id]
theorem flip_ok {p : Piece} (h : pieceB p = true) : pieceB (flipP p) = true := by
  obtain ⟨l, g, m, v⟩ := p
  simp [pieceB, withinB, flipP] at h ⊢
  obtain ⟨⟨⟨h1, h2⟩, h3, h4⟩, h5, h6⟩ := h
  exact ⟨⟨⟨decide_eq_true h1, decide_eq_true h2⟩, by omega, decide_eq_true (by omega)⟩, decide_eq_true h5, decide_eq_true h6⟩
theorem chk_rv {na : ByteArray} {ps : List Piece} (h : (chk na ps).2 = 0) : (chk na (rvP ps)).2 = 0 := by
  have e0 := chk_zero h
  have hr := chk_right h
  refine chk_fine ?_ fun p hp => ?_
  · unfold err0 at e0 ⊢
    rw [rvP_len]; exact e0
  · unfold rvP at hp
    obtain ⟨q, hq, rfl⟩ := List.mem_map.1 hp
    exact flip_ok (hr.1 q (List.mem_reverse.1 hq))
theorem jnE_a {na : ByteArray} {ps : List Piece} {nb : ByteArray} {qs : List Piece} (h : (chk na ps).2 ≠ 0) : jnE na ps nb qs = (chk na ps).2 := by
  unfold jnE firstE
  simp [h]
theorem samB_refl (na : ByteArray) (ps : List Piece) : samB na ps na ps = true := by unfold samB; simp
theorem rv_bad {na : ByteArray} {ps : List Piece} (h : ¬ (chk na ps).2 = 0) : rvN na ps = ⟨#[]⟩ ∧ rvQ na ps = [] := by unfold rvN rvQ; rw [if_neg h, if_neg h]; exact ⟨rfl, rfl⟩
theorem rv_good {na : ByteArray} {ps : List Piece} (h : (chk na ps).2 = 0) : rvN na ps = na ∧ rvQ na ps = rvP ps := by unfold rvN rvQ; rw [if_pos h, if_pos h]; exact ⟨rfl, rfl⟩
theorem jn_bad {na : ByteArray} {ps : List Piece} {nb : ByteArray} {qs : List Piece} (h : ¬ jnE na ps nb qs = 0) : jnN na ps nb qs = ⟨#[]⟩ ∧ jnP na ps nb qs = [] := by unfold jnN jnP; rw [if_neg h, if_neg h]; exact ⟨rfl, rfl⟩
theorem jn_good {na : ByteArray} {ps : List Piece} {nb : ByteArray} {qs : List Piece} (h : jnE na ps nb qs = 0) : jnN na ps nb qs = na ∧ jnP na ps nb qs = ps ++ qs := by unfold jnN jnP; rw [if_pos h, if_pos h]; exact ⟨rfl, rfl⟩
theorem jnE_b {na : ByteArray} {ps : List Piece} {nb : ByteArray} {qs : List Piece} (h : (chk na ps).2 = 0) : ((chk nb qs).2 ≠ 0 ∧ jnE na ps nb qs = (chk nb qs).2) ∨ ((chk nb qs).2 = 0 ∧ (ps.length : Int) + qs.length ≤ 12 ∧ jnE na ps nb qs = 0) ∨ ((chk nb qs).2 = 0 ∧ ¬ (ps.length : Int) + qs.length ≤ 12 ∧ jnE na ps nb qs = 8) := by
  unfold jnE firstE unlessE
  by_cases h1 : (chk nb qs).2 = 0
  · by_cases h2 : (ps.length : Int) + qs.length ≤ 12
    · exact .inr (.inl ⟨h1, h2, by simp [h, h1, h2, firstE]⟩)
    · exact .inr (.inr ⟨h1, h2, by simp [h, h1, h2, firstE]⟩)
  · exact .inl ⟨h1, by simp [h, h1, firstE]⟩
theorem rvQ_len (na : ByteArray) (ps : List Piece) : (rvQ na ps).length ≤ ps.length := by unfold rvQ; split <;> simp [rvP_len]
theorem jnP_len (na : ByteArray) (ps : List Piece) (nb : ByteArray) (qs : List Piece) : (jnP na ps nb qs).length ≤ ps.length + qs.length := by unfold jnP; split <;> simp
theorem reversed2_ok {na : ByteArray} {ps : List Piece} (h : (chk na ps).2 = 0) (ha : na.size ≤ 1000000000) (hp : ps.length ≤ 1000) : FnOk Try.prog 51 [trA (rvN na ps) (rvQ na ps)] (fun q => q = .tuple [trA na ps, iA 0]) := by
  rw [(rv_good h).1, (rv_good h).2]
  refine (reversed_ok na (rvP ps) ha (by rw [rvP_len]; exact hp)).mono fun q hq => ?_
  rw [hq, chk_rv h, if_pos rfl, if_pos rfl, rvP_rvP]
/-- What the document's Joined answers. -/
def rjE (ps qs : List Piece) : Int := if (ps.length : Int) + qs.length ≤ 12 then 0 else 8
def rjN (na : ByteArray) (ps qs : List Piece) : ByteArray := if (ps.length : Int) + qs.length ≤ 12 then na else ⟨#[]⟩
def rjQ (ps qs : List Piece) : List Piece := if (ps.length : Int) + qs.length ≤ 12 then ps ++ qs else []
theorem rjQ_len (ps qs : List Piece) : (rjQ ps qs).length ≤ ps.length + qs.length := by unfold rjQ; split <;> simp
theorem rjE_two (ps qs : List Piece) : (rjE ps qs = 0 ∧ (ps.length : Int) + qs.length ≤ 12) ∨ (rjE ps qs = 8 ∧ ¬ (ps.length : Int) + qs.length ≤ 12) := by
  unfold rjE
  by_cases h : (ps.length : Int) + qs.length ≤ 12
  · rw [if_pos h]; exact .inl ⟨rfl, h⟩
  · rw [if_neg h]; exact .inr ⟨rfl, h⟩
theorem jn_rj {na : ByteArray} {ps : List Piece} {nb : ByteArray} {qs : List Piece} (h : (chk na ps).2 = 0) (h2 : (chk nb qs).2 = 0) : jnE na ps nb qs = rjE ps qs ∧ samB (jnN na ps nb qs) (jnP na ps nb qs) (rjN na ps qs) (rjQ ps qs) = true := by
  rcases jnE_b (nb := nb) (qs := qs) h with ⟨h3, _⟩ | ⟨_, h3, h4⟩ | ⟨_, h3, h4⟩
  · exact absurd h2 h3
  · rw [(jn_good h4).1, (jn_good h4).2, h4]
    unfold rjE rjN rjQ
    rw [if_pos h3, if_pos h3, if_pos h3]; exact ⟨rfl, samB_refl _ _⟩
  · have h5 := jn_bad (na := na) (ps := ps) (nb := nb) (qs := qs) (by rw [h4]; decide)
    rw [h5.1, h5.2, h4]
    unfold rjE rjN rjQ
    rw [if_neg h3, if_neg h3, if_neg h3]; exact ⟨rfl, samB_refl _ _⟩
theorem rJoined1_ok (na : ByteArray) (ps : List Piece) (nb : ByteArray) (qs : List Piece) (h0 : ps ≠ []) (hp : ps.length ≤ 1000) (hq : qs.length ≤ 1000) :
    FnOk Try.prog 55 [trA na ps, trA nb qs] (fun q => q = .tuple [trA (rjN na ps qs) (rjQ ps qs), iA (rjE ps qs)]) := rJoined_ok na ps nb qs h0 hp hq
theorem places1_ok {nm : ByteArray} {ps : List Piece} (hz : (chk nm ps).2 = 0) (hs : nm.size ≤ 1000000000) (hp : ps.length ≤ 1000000000) : FnOk Try.prog 34 [trA nm ps] (fun q => q = .tuple [.row 1 ((plW ps ps.length).map iE), iA 0]) :=
  (placesOf_ok nm ps hs hp).mono fun q hq => by rw [hq, hz, if_pos rfl]
theorem places2_ok {na : ByteArray} {ps : List Piece} {nb : ByteArray} {qs : List Piece} (hj : jnE na ps nb qs = 0) (hs : na.size ≤ 1000000000) (hp : ps.length + qs.length ≤ 1000000000) : FnOk Try.prog 34 [trA (jnN na ps nb qs) (jnP na ps nb qs)] (fun q => q = .tuple [.row 1 ((plW (ps ++ qs) (ps.length + qs.length)).map iE), iA 0]) := by
  rw [(jn_good hj).1, (jn_good hj).2]
  have h := places1_ok (nm := na) (chk_join hj).1 hs (by rw [List.length_append]; omega)
  rwa [List.length_append] at h
theorem sumL_app2 {ps qs : List Piece} : ∀ {i : Nat}, i ≤ qs.length → sumL (ps ++ qs) (ps.length + i) = sumL ps ps.length + sumL qs i
  | 0, _ => by rw [Nat.add_zero, sumL_app (Nat.le_refl _)]; simp [sumL]
  | i + 1, h => by
    rw [show ps.length + (i + 1) = (ps.length + i) + 1 by omega]
    simp only [sumL]
    rw [sumL_app2 (by omega), show (ps ++ qs).getD (ps.length + i) default = qs.getD i default by rw [List.getD_eq_getElem?_getD, List.getElem?_append_right (by omega), show ps.length + i - ps.length = i by omega, ← List.getD_eq_getElem?_getD]]
    omega
theorem plW_bound {ps : List Piece} (h : Ok ps) {n : Nat} (hn : n ≤ 1000) (k : Nat) : 0 ≤ (plW ps n).getD k default ∧ (plW ps n).getD k default ≤ 10000000000 := by
  by_cases hk : k ≤ n
  · rw [plW_at ps hk]
    have := sumL_bound h k
    omega
  · have : (plW ps n).getD k default = 0 := by rw [List.getD_eq_getElem?_getD, List.getElem?_eq_none (by rw [plW_len]; omega)]; rfl
    omega
theorem pl_first {ps qs : List Piece} {i : Int} (h0 : 0 ≤ i) (h : i ≤ ps.length) : (plW (ps ++ qs) (ps.length + qs.length)).getD i.toNat default = (plW ps ps.length).getD i.toNat default := by
  rw [plW_at _ (by omega), plW_at _ (by omega), sumL_app (by omega)]
theorem pl_second {ps qs : List Piece} {i : Int} (h0 : ps.length < i) (h : i ≤ ps.length + qs.length) : (plW (ps ++ qs) (ps.length + qs.length)).getD i.toNat default = (plW ps ps.length).getD ps.length default + (plW qs qs.length).getD (i - ps.length).toNat default := by
  rw [plW_at _ (by omega), plW_at _ (Nat.le_refl _), plW_at _ (by omega), ← sumL_app2 (by omega)]
  congr 1; omega
set_option maxRecDepth 100000 in
set_option maxHeartbeats 4000000 in
theorem brakeOthers_ok (na : ByteArray) (ps : List Piece) (nb : ByteArray) (qs : List Piece) : FnOk Try.prog 13 [trA na ps, trA nb qs] (fun q => q = bA true) := by
  refine fnOk_of (fn := Try.f13) 220 (by kernel_rfl) rfl (by kernel_rfl) (Nat.le_of_ble_eq_true rfl) ?_
  intro e_0 m_0 hA hm_0
  have s0_0 : evA e_0 (.tmp 0) = _ := hA 0 _ rfl
  have s1_0 : evA e_0 (.tmp 1) = _ := hA 1 _ rfl
  have ml_0 : m_0.length = 0 := by rw [hm_0]; rfl
  clear hA hm_0
  refine aw_seq ?_
  refine aw_text (by kernel_rfl) ?_
  refine al_stm (st_box s0_0 rfl ml_0) trivial rfl (fun m_1 hm_1 => ?_)
  have mo0_1 := m_push hm_1 ml_0
  (try simp only [packA_t, packA_f, iE, bE, setAt, cellsA, Value.cells, map_vc, map_vn, Nat.reduceAdd, qS] at mo0_1)
  have ml_1 := m_push_l hm_1 ml_0
  have ml_1 : _ = 1 := ml_1
  clear hm_1
  refine al_stm (st_box (up_m rfl s1_0) rfl ml_1) trivial rfl (fun m_2 hm_2 => ?_)
  have mo1_2 := m_push hm_2 ml_1
  (try simp only [packA_t, packA_f, iE, bE, setAt, cellsA, Value.cells, map_vc, map_vn, Nat.reduceAdd, qS] at mo1_2)
  have mo0_2 := m_push_o hm_2 mo0_1
  have ml_2 := m_push_l hm_2 ml_1
  have ml_2 : _ = 2 := ml_2
  clear hm_2 mo0_1
  refine al_ro' (ro_assign ev_c) trivial rfl ?_
  refine al_end (fun e_3 he_3 => ?_)
  have s2_3 := ef 2 he_3 (u2 rfl up_h)
  have s3_3 := ef 3 he_3 (up_m rfl up_h)
  clear he_3 s0_0 s1_0
  refine then_n ?_
  refine aw_seq ?_
  refine aw_seq ?_
  refine aw_text (by kernel_rfl) ?_
  refine al_ro' (ro_call evL_nil rfl (awake_ok) k42_hcf15) trivial rfl ?_
  refine al_ro' (ro_not up_h) trivial rfl ?_
  refine al_end (fun e_4 he_4 => ?_)
  have s2_4 := ef 2 he_4 (u2 rfl s2_3)
  have s3_4 := ef 3 he_4 (u2 rfl s3_3)
  have s23_4 := ef 23 he_4 up_h
  clear he_4 s2_3 s3_3
  refine then_n ?_
  refine aw_case s23_4 (fun hq_5 => ?_) (fun hq_5 => ?_)
  · skip
    first
    | (cases hq_5; done) | ((first | replace hq_5 := bnt hq_5 | replace hq_5 := bnf hq_5 | replace hq_5 := bt hq_5 | replace hq_5 := bf hq_5 | replace hq_5 := bt' hq_5 | replace hq_5 := bf' hq_5 | skip); exfalso; omega) | (exact absurd (hs1.symm.trans hq_5) (by decide)) | (exact absurd (hs2.symm.trans hq_5) (by decide)) | (exact absurd (hsj.symm.trans hq_5) (by decide)) | (exact absurd (hsr.symm.trans hq_5) (by decide))
    | ((first | replace hq_5 := bnt hq_5 | replace hq_5 := bnf hq_5 | replace hq_5 := bt hq_5 | replace hq_5 := bf hq_5 | replace hq_5 := bt' hq_5 | replace hq_5 := bf' hq_5 | skip)
       refine aw_seq ?_
       refine aw_text (by kernel_rfl) ?_
       refine al_ro' (ro_assign ev_c) trivial rfl ?_
       refine al_end (fun e_6 he_6 => ?_)
       have s4_6 := ef 4 he_6 up_h
       clear he_6 s23_4 s2_4 s3_4
       refine then_n ?_
       refine aw_ret ?_
       refine then_r ?_
       refine ret1 (.inr rfl) (by kernel_rfl) (resV_tmp s4_6) (.ro _ rfl) ?_
       clear s4_6 mo1_2 mo0_2 ml_2
       (first | rfl | exact congrArg (fun b => bA b) hs1 | exact congrArg (fun b => bA b) hs2 | (simp [hs1, hs2]; done) | (rw [hja] at *; exfalso; omega) | (exfalso; omega)))
  · skip
    first
    | (cases hq_5; done) | ((first | replace hq_5 := bnt hq_5 | replace hq_5 := bnf hq_5 | replace hq_5 := bt hq_5 | replace hq_5 := bf hq_5 | replace hq_5 := bt' hq_5 | replace hq_5 := bf' hq_5 | skip); exfalso; omega) | (exact absurd (hs1.symm.trans hq_5) (by decide)) | (exact absurd (hs2.symm.trans hq_5) (by decide)) | (exact absurd (hsj.symm.trans hq_5) (by decide)) | (exact absurd (hsr.symm.trans hq_5) (by decide))
    | ((first | replace hq_5 := bnt hq_5 | replace hq_5 := bnf hq_5 | replace hq_5 := bt hq_5 | replace hq_5 := bf hq_5 | replace hq_5 := bt' hq_5 | replace hq_5 := bf' hq_5 | skip)
       refine aw_skip ?_
       refine then_n ?_
       refine aw_seq ?_
       refine aw_seq ?_
       refine aw_cut (fun e mem => (evA e (.tmp 31) = .v (.bool (decide (¬ (na.size ≤ 30 ∧ ps.length ≤ 14) ∨ ¬ (nb.size ≤ 30 ∧ qs.length ≤ 14))))) ∧ (evA e (.tmp 2) = evA e_4 (.tmp 2)) ∧ (evA e (.tmp 3) = evA e_4 (.tmp 3)) ∧ m_2 = mem) ?_ ?_
       ·
         refine aw_text (by kernel_rfl) ?_
         refine al_ro' (ro_eq (ro_ld_ptr k42_ty24 rfl mo0_2 s2_4 (by first | exact Nat.le_of_ble_eq_true rfl | omega | (simp only [lnS] <;> omega) | (simp <;> omega))) (by first | (simp only [packA_t, packA_f, iE, bE, setAt, cellsA, Value.cells, map_vc, map_vn, Nat.reduceAdd, qS] <;> rfl) | rfl)) trivial rfl ?_
         refine al_ro' (ro_call (evL_cons up_h evL_nil) rfl (short_ok na ps) k42_hcf16) trivial rfl ?_
         refine al_ro' (ro_not up_h) trivial rfl ?_
         refine al_ro' (ro_move up_h) trivial rfl ?_
         refine al_case up_h (fun hb_8 hq_8 => ?_) (fun hb_8 hq_8 => ?_)
         · skip
           first
           | (cases hq_8; done) | ((first | replace hq_8 := bnt hq_8 | replace hq_8 := bnf hq_8 | replace hq_8 := bt hq_8 | replace hq_8 := bf hq_8 | replace hq_8 := bt' hq_8 | replace hq_8 := bf' hq_8 | skip); exfalso; omega) | (exact absurd (hs1.symm.trans hq_8) (by decide)) | (exact absurd (hs2.symm.trans hq_8) (by decide)) | (exact absurd (hsj.symm.trans hq_8) (by decide)) | (exact absurd (hsr.symm.trans hq_8) (by decide))
           | ((first | replace hq_8 := bnt hq_8 | replace hq_8 := bnf hq_8 | replace hq_8 := bt hq_8 | replace hq_8 := bf hq_8 | replace hq_8 := bt' hq_8 | replace hq_8 := bf' hq_8 | skip)
              refine al_skip' ⟨_, rfl, .inl hb_8⟩ rfl ?_
              refine al_skip' ⟨_, rfl, .inl (up_m rfl hb_8)⟩ rfl ?_
              refine al_skip' ⟨_, rfl, .inl (u2 rfl hb_8)⟩ rfl ?_
              refine al_ro' (ro_pickT (up_m rfl (u2 rfl hb_8)) ev_c) trivial rfl ?_
              refine al_end (fun e_9 he_9 => ?_)
              have s2_9 := ef 2 he_9 (u8 rfl s2_4)
              have s3_9 := ef 3 he_9 (u8 rfl s3_4)
              have s31_9 := ef 31 he_9 up_h
              clear he_9
              refine then_n ⟨(s31_9).trans (by (refine avb ?_; simp only [decide_eq_true_eq, Bool.false_eq_true, true_iff, false_iff, Bool.not_eq_true', decide_eq_false_iff_not]; omega)), (s2_9).trans (s2_4).symm, (s3_9).trans (s3_4).symm, rfl⟩)
         · skip
           first
           | (cases hq_8; done) | ((first | replace hq_8 := bnt hq_8 | replace hq_8 := bnf hq_8 | replace hq_8 := bt hq_8 | replace hq_8 := bf hq_8 | replace hq_8 := bt' hq_8 | replace hq_8 := bf' hq_8 | skip); exfalso; omega) | (exact absurd (hs1.symm.trans hq_8) (by decide)) | (exact absurd (hs2.symm.trans hq_8) (by decide)) | (exact absurd (hsj.symm.trans hq_8) (by decide)) | (exact absurd (hsr.symm.trans hq_8) (by decide))
           | ((first | replace hq_8 := bnt hq_8 | replace hq_8 := bnf hq_8 | replace hq_8 := bt hq_8 | replace hq_8 := bf hq_8 | replace hq_8 := bt' hq_8 | replace hq_8 := bf' hq_8 | skip)
              refine al_ro' (ro_eq (ro_ld_ptr k42_ty24 rfl mo1_2 (u4 rfl s3_4) (by first | exact Nat.le_of_ble_eq_true rfl | omega | (simp only [lnS] <;> omega) | (simp <;> omega))) (by first | (simp only [packA_t, packA_f, iE, bE, setAt, cellsA, Value.cells, map_vc, map_vn, Nat.reduceAdd, qS] <;> rfl) | rfl)) ⟨_, rfl, hb_8⟩ rfl ?_
              refine al_ro' (ro_call (evL_cons up_h evL_nil) rfl (short_ok nb qs) k42_hcf16) ⟨_, rfl, (up_m rfl hb_8)⟩ rfl ?_
              refine al_ro' (ro_not up_h) ⟨_, rfl, (u2 rfl hb_8)⟩ rfl ?_
              refine al_ro' (ro_pickF (up_m rfl (u2 rfl hb_8)) up_h) trivial rfl ?_
              refine al_end (fun e_10 he_10 => ?_)
              have s2_10 := ef 2 he_10 (u8 rfl s2_4)
              have s3_10 := ef 3 he_10 (u8 rfl s3_4)
              have s31_10 := ef 31 he_10 up_h
              clear he_10
              refine then_n ⟨(s31_10).trans (by (refine avb ?_; simp only [decide_eq_true_eq, Bool.false_eq_true, true_iff, false_iff, Bool.not_eq_true', decide_eq_false_iff_not]; omega)), (s2_10).trans (s2_4).symm, (s3_10).trans (s3_4).symm, rfl⟩)
       · rintro e_7 _ ⟨s31_7, k2_7, k3_7, rfl⟩
         have s2_7 := k2_7.trans s2_4
         have s3_7 := k3_7.trans s3_4
         refine aw_case s31_7 (fun hq_11 => ?_) (fun hq_11 => ?_)
         · skip
           first
           | (cases hq_11; done) | ((first | replace hq_11 := bnt hq_11 | replace hq_11 := bnf hq_11 | replace hq_11 := bt hq_11 | replace hq_11 := bf hq_11 | replace hq_11 := bt' hq_11 | replace hq_11 := bf' hq_11 | skip); exfalso; omega) | (exact absurd (hs1.symm.trans hq_11) (by decide)) | (exact absurd (hs2.symm.trans hq_11) (by decide)) | (exact absurd (hsj.symm.trans hq_11) (by decide)) | (exact absurd (hsr.symm.trans hq_11) (by decide))
           | ((first | replace hq_11 := bnt hq_11 | replace hq_11 := bnf hq_11 | replace hq_11 := bt hq_11 | replace hq_11 := bf hq_11 | replace hq_11 := bt' hq_11 | replace hq_11 := bf' hq_11 | skip)
              refine aw_seq ?_
              refine aw_text (by kernel_rfl) ?_
              refine al_ro' (ro_assign ev_c) trivial rfl ?_
              refine al_end (fun e_12 he_12 => ?_)
              have s4_12 := ef 4 he_12 up_h
              clear he_12 s2_7 s31_7 s3_7
              refine then_n ?_
              refine aw_ret ?_
              refine then_r ?_
              refine ret1 (.inr rfl) (by kernel_rfl) (resV_tmp s4_12) (.ro _ rfl) ?_
              clear s4_12 mo1_2 mo0_2 ml_2
              (first | rfl | exact congrArg (fun b => bA b) hs1 | exact congrArg (fun b => bA b) hs2 | (simp [hs1, hs2]; done) | (rw [hja] at *; exfalso; omega) | (exfalso; omega)))
         · skip
           first
           | (cases hq_11; done) | ((first | replace hq_11 := bnt hq_11 | replace hq_11 := bnf hq_11 | replace hq_11 := bt hq_11 | replace hq_11 := bf hq_11 | replace hq_11 := bt' hq_11 | replace hq_11 := bf' hq_11 | skip); exfalso; omega) | (exact absurd (hs1.symm.trans hq_11) (by decide)) | (exact absurd (hs2.symm.trans hq_11) (by decide)) | (exact absurd (hsj.symm.trans hq_11) (by decide)) | (exact absurd (hsr.symm.trans hq_11) (by decide))
           | ((first | replace hq_11 := bnt hq_11 | replace hq_11 := bnf hq_11 | replace hq_11 := bt hq_11 | replace hq_11 := bf hq_11 | replace hq_11 := bt' hq_11 | replace hq_11 := bf' hq_11 | skip)
              (have hl1 := rvQ_len na ps; have hl2 := jnP_len na ps nb qs; have hl3 := rvP_len ps; have hl4 := rjQ_len ps qs)
              refine aw_skip ?_
              refine then_n ?_
              refine aw_seq ?_
              refine aw_text (by kernel_rfl) ?_
              refine al_ro' (ro_eq (ro_ld_ptr k42_ty24 rfl mo0_2 s2_7 (by first | exact Nat.le_of_ble_eq_true rfl | omega | (simp only [lnS] <;> omega) | (simp <;> omega))) (by first | (simp only [packA_t, packA_f, iE, bE, setAt, cellsA, Value.cells, map_vc, map_vn, Nat.reduceAdd, qS] <;> rfl) | rfl)) trivial rfl ?_
              first | refine al_ro' (ro_call (evL_cons up_h evL_nil) rfl (rCopy_ok na ps (by omega)) k42_hcf18) trivial rfl ?_ | refine al_ro' (ro_call (evL_cons up_h evL_nil) rfl (rCopy_ok nb qs (by omega)) k42_hcf18) trivial rfl ?_ | refine al_ro' (ro_call (evL_cons up_h evL_nil) rfl (rCopy_ok (rvN na ps) (rvQ na ps) (by omega)) k42_hcf18) trivial rfl ?_ | refine al_ro' (ro_call (evL_cons up_h evL_nil) rfl (rCopy_ok (jnN na ps nb qs) (jnP na ps nb qs) (by omega)) k42_hcf18) trivial rfl ?_
              refine al_ro' (ro_call (evL_cons up_h evL_nil) rfl (reversed1_ok na ps (by omega) (by omega)) k42_hcf51) trivial rfl ?_
              refine al_ro' (ro_move up_h) trivial rfl ?_
              refine al_ro' (ro_extract up_h rfl) trivial rfl ?_
              refine al_ro' (ro_extract (up_m rfl up_h) rfl) trivial rfl ?_
              refine al_stm (st_alloc k42_az24 rfl ml_2) trivial rfl (fun m_13 hm_13 => ?_)
              have mo2_13 := m_push hm_13 ml_2
              (try simp only [packA_t, packA_f, iE, bE, setAt, cellsA, Value.cells, map_vc, map_vn, Nat.reduceAdd, qS] at mo2_13)
              have mo1_13 := m_push_o hm_13 mo1_2
              have mo0_13 := m_push_o hm_13 mo0_2
              have ml_13 := m_push_l hm_13 ml_2
              have ml_13 : _ = 3 := ml_13
              clear hm_13 mo1_2 mo0_2
              refine al_stm (st_store up_h (u2 rfl up_h) rfl rfl mo2_13 k42_sz24 rfl (by first | exact Nat.le_of_ble_eq_true rfl | omega | (simp only [lnS] <;> omega) | (simp <;> omega))) trivial rfl (fun m_14 hm_14 => ?_)
              have mo2_14 := m_set hm_14 mo2_13
              (try simp only [packA_t, packA_f, iE, bE, setAt, cellsA, Value.cells, map_vc, map_vn, Nat.reduceAdd, qS] at mo2_14)
              have mo1_14 := m_set_o hm_14 mo1_13 (by decide)
              have mo0_14 := m_set_o hm_14 mo0_13 (by decide)
              have ml_14 := m_set_l hm_14 ml_13
              clear hm_14 mo2_13 mo1_13 mo0_13
              refine al_ro' (ro_assign (up_n (up_m rfl up_h))) trivial rfl ?_
              refine al_end (fun e_15 he_15 => ?_)
              have s2_15 := ef 2 he_15 (up_m rfl (up_n (up_m rfl (u2 rfl (u4 rfl s2_7)))))
              have s3_15 := ef 3 he_15 (up_m rfl (up_n (up_m rfl (u2 rfl (u4 rfl s3_7)))))
              have s5_15 := ef 5 he_15 (up_m rfl (up_n up_h))
              have s6_15 := ef 6 he_15 up_h
              clear he_15 s2_7 s31_7 s3_7
              refine then_n ?_
              refine aw_seq ?_
              refine aw_drawK 10 1 ml_14 (by kernel_rfl) (by kernel_rfl) (by kernel_rfl) (by kernel_rfl) (fun m_16 hm_16 => ?_)
              have mo2_16 := m_room_o hm_16 mo2_14
              have mo1_16 := m_room_o hm_16 mo1_14
              have mo0_16 := m_room_o hm_16 mo0_14
              have mo3_16 : m_16[3]? = _ := m_room_g hm_16 ml_14 0 rfl rfl
              have ml_16 : _ = 4 := m_room_l hm_16 ml_14
              clear hm_16 mo2_14 mo1_14 mo0_14 ml_14
              refine dh_ld (0) (fun M_ hM_ => (ro_eq (ro_ld_ptr k42_ty24 rfl (agr hM_ mo0_16 (by simp)) s2_15 (by first | exact Nat.le_of_ble_eq_true rfl | omega | (simp only [lnS] <;> omega) | (simp <;> omega))) (by first | (simp only [packA_t, packA_f, iE, bE, setAt, cellsA, Value.cells, map_vc, map_vn, Nat.reduceAdd, qS] <;> rfl) | rfl))) trivial trivial ?_
              first | refine dh_ro (fun M_ hM_ => (ro_call (evL_cons up_h evL_nil) rfl (rCopy_ok na ps (by omega)) k42_hcf18)) trivial ?_ | refine dh_ro (fun M_ hM_ => (ro_call (evL_cons up_h evL_nil) rfl (rCopy_ok nb qs (by omega)) k42_hcf18)) trivial ?_ | refine dh_ro (fun M_ hM_ => (ro_call (evL_cons up_h evL_nil) rfl (rCopy_ok (rvN na ps) (rvQ na ps) (by omega)) k42_hcf18)) trivial ?_ | refine dh_ro (fun M_ hM_ => (ro_call (evL_cons up_h evL_nil) rfl (rCopy_ok (jnN na ps nb qs) (jnP na ps nb qs) (by omega)) k42_hcf18)) trivial ?_
              refine dh_ld (1) (fun M_ hM_ => (ro_eq (ro_ld_ptr k42_ty24 rfl (agr hM_ mo1_16 (by simp)) (u2 rfl s3_15) (by first | exact Nat.le_of_ble_eq_true rfl | omega | (simp only [lnS] <;> omega) | (simp <;> omega))) (by first | (simp only [packA_t, packA_f, iE, bE, setAt, cellsA, Value.cells, map_vc, map_vn, Nat.reduceAdd, qS] <;> rfl) | rfl))) trivial trivial ?_
              first | refine dh_ro (fun M_ hM_ => (ro_call (evL_cons up_h evL_nil) rfl (rCopy_ok na ps (by omega)) k42_hcf18)) trivial ?_ | refine dh_ro (fun M_ hM_ => (ro_call (evL_cons up_h evL_nil) rfl (rCopy_ok nb qs (by omega)) k42_hcf18)) trivial ?_ | refine dh_ro (fun M_ hM_ => (ro_call (evL_cons up_h evL_nil) rfl (rCopy_ok (rvN na ps) (rvQ na ps) (by omega)) k42_hcf18)) trivial ?_ | refine dh_ro (fun M_ hM_ => (ro_call (evL_cons up_h evL_nil) rfl (rCopy_ok (jnN na ps nb qs) (jnP na ps nb qs) (by omega)) k42_hcf18)) trivial ?_
              refine dh_ro (fun M_ hM_ => (ro_call (evL_cons (u2 rfl up_h) (evL_cons up_h evL_nil)) rfl (joined1_ok na ps nb qs (by omega) (by omega) (by omega) (by omega)) k42_hcf42)) trivial ?_
              refine dh_ro (fun M_ hM_ => (ro_move up_h)) trivial ?_
              refine dh_ro (fun M_ hM_ => (ro_extract up_h rfl)) trivial ?_
              refine dh_ro (fun M_ hM_ => (ro_extract (up_m rfl up_h) rfl)) trivial ?_
              refine dh_nw (3) (fun M_ hM_ => (nw_alloc k42_az24 rfl)) trivial mo3_16 rfl trivial ⟨.inl (by simp <;> omega), ⟨.inl (by simp <;> omega), trivial⟩⟩ (fun m_17 hm_17 => ?_)
              have mo3_17 := m_set hm_17 mo3_16
              (try simp only [packA_t, packA_f, iE, bE, setAt, cellsA, Value.cells, map_vc, map_vn, Nat.reduceAdd, qS] at mo3_17)
              have mo2_17 := m_set_o hm_17 mo2_16 (by decide)
              have mo1_17 := m_set_o hm_17 mo1_16 (by decide)
              have mo0_17 := m_set_o hm_17 mo0_16 (by decide)
              have ml_17 := m_set_l hm_17 ml_16
              clear hm_17 mo2_16 mo1_16 mo0_16 mo3_16
              refine dh_set (3) (fun M_ hM_ => (se_store up_h (u2 rfl up_h) rfl rfl (agr hM_ mo3_17 (by simp)) k42_sz24 rfl (by first | exact Nat.le_of_ble_eq_true rfl | omega | (simp only [lnS] <;> omega) | (simp <;> omega)))) trivial ⟨.inr (wt_one 9 8 (by kernel_rfl)), trivial⟩ ⟨.inl (by simp <;> omega), ⟨.inl (by simp <;> omega), ⟨.inr (wt_one 9 8 (by kernel_rfl)), trivial⟩⟩⟩ (fun m_18 hm_18 => ?_)
              have mo3_18 := m_set hm_18 mo3_17
              (try simp only [packA_t, packA_f, iE, bE, setAt, cellsA, Value.cells, map_vc, map_vn, Nat.reduceAdd, qS] at mo3_18)
              have mo2_18 := m_set_o hm_18 mo2_17 (by decide)
              have mo1_18 := m_set_o hm_18 mo1_17 (by decide)
              have mo0_18 := m_set_o hm_18 mo0_17 (by decide)
              have ml_18 := m_set_l hm_18 ml_17
              clear hm_18 mo3_17 mo2_17 mo1_17 mo0_17
              refine dh_nil rfl ?_
              refine al_ro' (ro_assign (up_n (up_m rfl up_h))) trivial rfl ?_
              refine al_end (fun e_19 he_19 => ?_)
              have s2_19 := ef 2 he_19 (up_m rfl (up_n (up_m rfl (u8 rfl s2_15))))
              have s3_19 := ef 3 he_19 (up_m rfl (up_n (up_m rfl (u8 rfl s3_15))))
              have s5_19 := ef 5 he_19 (up_m rfl (up_n (up_m rfl (u8 rfl s5_15))))
              have s6_19 := ef 6 he_19 (up_m rfl (up_n (up_m rfl (u8 rfl s6_15))))
              have s7_19 := ef 7 he_19 (up_m rfl (up_n up_h))
              have s8_19 := ef 8 he_19 up_h
              clear he_19 s2_15 s3_15 s5_15 s6_15
              refine then_n ?_
              refine aw_seq ?_
              refine aw_text (by kernel_rfl) ?_
              refine al_ro' (ro_build evP_nil k42_bz24 k42_bu24 k42_bp24 rfl) trivial rfl ?_
              refine al_stm (st_alloc k42_az24 rfl ml_18) trivial rfl (fun m_20 hm_20 => ?_)
              have mo4_20 := m_push hm_20 ml_18
              (try simp only [packA_t, packA_f, iE, bE, setAt, cellsA, Value.cells, map_vc, map_vn, Nat.reduceAdd, qS] at mo4_20)
              have mo3_20 := m_push_o hm_20 mo3_18
              have mo2_20 := m_push_o hm_20 mo2_18
              have mo1_20 := m_push_o hm_20 mo1_18
              have mo0_20 := m_push_o hm_20 mo0_18
              have ml_20 := m_push_l hm_20 ml_18
              have ml_20 : _ = 5 := ml_20
              clear hm_20 mo3_18 mo2_18 mo1_18 mo0_18
              refine al_stm (st_store up_h (up_m rfl up_h) rfl rfl mo4_20 k42_sz24 rfl (by first | exact Nat.le_of_ble_eq_true rfl | omega | (simp only [lnS] <;> omega) | (simp <;> omega))) trivial rfl (fun m_21 hm_21 => ?_)
              have mo4_21 := m_set hm_21 mo4_20
              (try simp only [packA_t, packA_f, iE, bE, setAt, cellsA, Value.cells, map_vc, map_vn, Nat.reduceAdd, qS] at mo4_21)
              have mo3_21 := m_set_o hm_21 mo3_20 (by decide)
              have mo2_21 := m_set_o hm_21 mo2_20 (by decide)
              have mo1_21 := m_set_o hm_21 mo1_20 (by decide)
              have mo0_21 := m_set_o hm_21 mo0_20 (by decide)
              have ml_21 := m_set_l hm_21 ml_20
              clear hm_21 mo4_20 mo3_20 mo2_20 mo1_20 mo0_20
              refine al_end (fun e_22 he_22 => ?_)
              have s2_22 := ef 2 he_22 (up_n (u2 rfl s2_19))
              have s3_22 := ef 3 he_22 (up_n (u2 rfl s3_19))
              have s5_22 := ef 5 he_22 (up_n (u2 rfl s5_19))
              have s6_22 := ef 6 he_22 (up_n (u2 rfl s6_19))
              have s7_22 := ef 7 he_22 (up_n (u2 rfl s7_19))
              have s8_22 := ef 8 he_22 (up_n (u2 rfl s8_19))
              have s9_22 := ef 9 he_22 (up_n up_h)
              clear he_22 s2_19 s3_19 s5_19 s6_19 s7_19 s8_19
              refine then_n ?_
              refine aw_seq ?_
              refine aw_seq ?_
              refine aw_text (by kernel_rfl) ?_
              refine al_ro' (ro_eq (ro_ld_ptr k42_ty24 rfl mo0_21 s2_22 (by first | exact Nat.le_of_ble_eq_true rfl | omega | (simp only [lnS] <;> omega) | (simp <;> omega))) (by first | (simp only [packA_t, packA_f, iE, bE, setAt, cellsA, Value.cells, map_vc, map_vn, Nat.reduceAdd, qS] <;> rfl) | rfl)) trivial rfl ?_
              first | refine al_ro' (ro_call (evL_cons up_h evL_nil) rfl (rTrackErr_ok na ps (by omega) (by omega)) k42_hcf52) trivial rfl ?_ | refine al_ro' (ro_call (evL_cons up_h evL_nil) rfl (rTrackErr_ok nb qs (by omega) (by omega)) k42_hcf52) trivial rfl ?_
              refine al_ro' (ro_assign up_h) trivial rfl ?_
              refine al_end (fun e_23 he_23 => ?_)
              have s2_23 := ef 2 he_23 (up_m rfl (u2 rfl s2_22))
              have s3_23 := ef 3 he_23 (up_m rfl (u2 rfl s3_22))
              have s5_23 := ef 5 he_23 (up_m rfl (u2 rfl s5_22))
              have s6_23 := ef 6 he_23 (up_m rfl (u2 rfl s6_22))
              have s7_23 := ef 7 he_23 (up_m rfl (u2 rfl s7_22))
              have s8_23 := ef 8 he_23 (up_m rfl (u2 rfl s8_22))
              have s9_23 := ef 9 he_23 (up_m rfl (u2 rfl s9_22))
              have s10_23 := ef 10 he_23 up_h
              clear he_23 s2_22 s3_22 s5_22 s6_22 s7_22 s8_22 s9_22
              refine then_n ?_
              refine aw_seq ?_
              refine aw_text (by kernel_rfl) ?_
              refine al_ro' (ro_move s10_23) trivial rfl ?_
              refine al_ro' (ro_neq up_h ev_c) trivial rfl ?_
              refine al_end (fun e_24 he_24 => ?_)
              have s2_24 := ef 2 he_24 (u2 rfl s2_23)
              have s3_24 := ef 3 he_24 (u2 rfl s3_23)
              have s5_24 := ef 5 he_24 (u2 rfl s5_23)
              have s6_24 := ef 6 he_24 (u2 rfl s6_23)
              have s7_24 := ef 7 he_24 (u2 rfl s7_23)
              have s8_24 := ef 8 he_24 (u2 rfl s8_23)
              have s9_24 := ef 9 he_24 (u2 rfl s9_23)
              have s10_24 := ef 10 he_24 (u2 rfl s10_23)
              have s50_24 := ef 50 he_24 up_h
              clear he_24 s10_23 s2_23 s3_23 s5_23 s6_23 s7_23 s8_23 s9_23
              refine then_n ?_
              refine aw_case s50_24 (fun hq_25 => ?_) (fun hq_25 => ?_)
              · skip
                first
                | (cases hq_25; done) | ((first | replace hq_25 := bnt hq_25 | replace hq_25 := bnf hq_25 | replace hq_25 := bt hq_25 | replace hq_25 := bf hq_25 | replace hq_25 := bt' hq_25 | replace hq_25 := bf' hq_25 | skip); exfalso; omega) | (exact absurd (hs1.symm.trans hq_25) (by decide)) | (exact absurd (hs2.symm.trans hq_25) (by decide)) | (exact absurd (hsj.symm.trans hq_25) (by decide)) | (exact absurd (hsr.symm.trans hq_25) (by decide))
                | ((first | replace hq_25 := bnt hq_25 | replace hq_25 := bnf hq_25 | replace hq_25 := bt hq_25 | replace hq_25 := bf hq_25 | replace hq_25 := bt' hq_25 | replace hq_25 := bf' hq_25 | skip)
                   (have hn : ¬ (chk na ps).2 = 0 := (by assumption); have hb1 := rv_bad hn; have hja := jnE_a (nb := nb) (qs := qs) hn; have hjn : ¬ jnE na ps nb qs = 0 := (by rw [hja]; exact hn); have hjb := jn_bad hjn; have hs1 : samB (rvN na ps) (rvQ na ps) ByteArray.empty [] = true := (by rw [hb1.1, hb1.2]; exact samB_refl _ _); have hs2 : samB (jnN na ps nb qs) (jnP na ps nb qs) ByteArray.empty [] = true := (by rw [hjb.1, hjb.2]; exact samB_refl _ _))
                   refine aw_seq ?_
                   refine aw_text (by kernel_rfl) ?_
                   refine al_ro' (ro_move s6_24) trivial rfl ?_
                   refine al_ro' (ro_move (up_m rfl s10_24)) trivial rfl ?_
                   refine al_ro' (ro_eql (up_m rfl up_h) up_h) trivial rfl ?_
                   refine al_ro' (ro_move up_h) trivial rfl ?_
                   refine al_case up_h (fun hb_26 hq_26 => ?_) (fun hb_26 hq_26 => ?_)
                   · skip
                     first
                     | (cases hq_26; done) | ((first | replace hq_26 := bnt hq_26 | replace hq_26 := bnf hq_26 | replace hq_26 := bt hq_26 | replace hq_26 := bf hq_26 | replace hq_26 := bt' hq_26 | replace hq_26 := bf' hq_26 | skip); exfalso; omega) | (exact absurd (hs1.symm.trans hq_26) (by decide)) | (exact absurd (hs2.symm.trans hq_26) (by decide)) | (exact absurd (hsj.symm.trans hq_26) (by decide)) | (exact absurd (hsr.symm.trans hq_26) (by decide))
                     | ((first | replace hq_26 := bnt hq_26 | replace hq_26 := bnf hq_26 | replace hq_26 := bt hq_26 | replace hq_26 := bf hq_26 | replace hq_26 := bt' hq_26 | replace hq_26 := bf' hq_26 | skip)
                        refine al_ro' (ro_move (u4 rfl s8_24)) ⟨_, rfl, hb_26⟩ rfl ?_
                        refine al_ro' (ro_move (up_m rfl (u4 rfl s10_24))) ⟨_, rfl, (up_m rfl hb_26)⟩ rfl ?_
                        refine al_ro' (ro_eql (up_m rfl up_h) up_h) ⟨_, rfl, (u2 rfl hb_26)⟩ rfl ?_
                        refine al_ro' (ro_pickT (up_m rfl (u2 rfl hb_26)) up_h) trivial rfl ?_
                        refine al_ro' (ro_move up_h) trivial rfl ?_
                        refine al_case up_h (fun hb_27 hq_27 => ?_) (fun hb_27 hq_27 => ?_)
                        · skip
                          first
                          | (cases hq_27; done) | ((first | replace hq_27 := bnt hq_27 | replace hq_27 := bnf hq_27 | replace hq_27 := bt hq_27 | replace hq_27 := bf hq_27 | replace hq_27 := bt' hq_27 | replace hq_27 := bf' hq_27 | skip); exfalso; omega) | (exact absurd (hs1.symm.trans hq_27) (by decide)) | (exact absurd (hs2.symm.trans hq_27) (by decide)) | (exact absurd (hsj.symm.trans hq_27) (by decide)) | (exact absurd (hsr.symm.trans hq_27) (by decide))
                          | ((first | replace hq_27 := bnt hq_27 | replace hq_27 := bnf hq_27 | replace hq_27 := bt hq_27 | replace hq_27 := bf hq_27 | replace hq_27 := bt' hq_27 | replace hq_27 := bf' hq_27 | skip)
                             refine al_ro' (ro_eq (ro_ld_ptr k42_ty24 rfl mo2_21 (up_m rfl (u8 rfl s5_24)) (by first | exact Nat.le_of_ble_eq_true rfl | omega | (simp only [lnS] <;> omega) | (simp <;> omega))) (by first | (simp only [packA_t, packA_f, iE, bE, setAt, cellsA, Value.cells, map_vc, map_vn, Nat.reduceAdd, qS] <;> rfl) | rfl)) ⟨_, rfl, hb_27⟩ rfl ?_
                             refine al_ro' (ro_eq (ro_ld_ptr k42_ty24 rfl mo4_21 (u2 rfl (u8 rfl s9_24)) (by first | exact Nat.le_of_ble_eq_true rfl | omega | (simp only [lnS] <;> omega) | (simp <;> omega))) (by first | (simp only [packA_t, packA_f, iE, bE, setAt, cellsA, Value.cells, map_vc, map_vn, Nat.reduceAdd, qS] <;> rfl) | rfl)) ⟨_, rfl, (up_m rfl hb_27)⟩ rfl ?_
                             first | refine al_ro' (ro_call (evL_cons (up_m rfl up_h) (evL_cons up_h evL_nil)) rfl (same_none _ _ (by omega) _) k42_hcf53) ⟨_, rfl, (u2 rfl hb_27)⟩ rfl ?_ | refine al_ro' (ro_call (evL_cons (up_m rfl up_h) (evL_cons up_h evL_nil)) rfl (rSame_ok _ _ _ _ (by omega) (by omega)) k42_hcf53) ⟨_, rfl, (u2 rfl hb_27)⟩ rfl ?_
                             refine al_ro' (ro_pickT (up_m rfl (u2 rfl hb_27)) up_h) trivial rfl ?_
                             refine al_ro' (ro_move up_h) trivial rfl ?_
                             refine al_case up_h (fun hb_28 hq_28 => ?_) (fun hb_28 hq_28 => ?_)
                             · skip
                               first
                               | (cases hq_28; done) | ((first | replace hq_28 := bnt hq_28 | replace hq_28 := bnf hq_28 | replace hq_28 := bt hq_28 | replace hq_28 := bf hq_28 | replace hq_28 := bt' hq_28 | replace hq_28 := bf' hq_28 | skip); exfalso; omega) | (exact absurd (hs1.symm.trans hq_28) (by decide)) | (exact absurd (hs2.symm.trans hq_28) (by decide)) | (exact absurd (hsj.symm.trans hq_28) (by decide)) | (exact absurd (hsr.symm.trans hq_28) (by decide))
                               | ((first | replace hq_28 := bnt hq_28 | replace hq_28 := bnf hq_28 | replace hq_28 := bt hq_28 | replace hq_28 := bf hq_28 | replace hq_28 := bt' hq_28 | replace hq_28 := bf' hq_28 | skip)
                                  refine al_ro' (ro_eq (ro_ld_ptr k42_ty24 rfl mo3_21 (u2 rfl (u4 rfl (u8 rfl s7_24))) (by first | exact Nat.le_of_ble_eq_true rfl | omega | (simp only [lnS] <;> omega) | (simp <;> omega))) (by first | (simp only [packA_t, packA_f, iE, bE, setAt, cellsA, Value.cells, map_vc, map_vn, Nat.reduceAdd, qS] <;> rfl) | rfl)) ⟨_, rfl, hb_28⟩ rfl ?_
                                  refine al_ro' (ro_eq (ro_ld_ptr k42_ty24 rfl mo4_21 (up_m rfl (u2 rfl (u4 rfl (u8 rfl s9_24)))) (by first | exact Nat.le_of_ble_eq_true rfl | omega | (simp only [lnS] <;> omega) | (simp <;> omega))) (by first | (simp only [packA_t, packA_f, iE, bE, setAt, cellsA, Value.cells, map_vc, map_vn, Nat.reduceAdd, qS] <;> rfl) | rfl)) ⟨_, rfl, (up_m rfl hb_28)⟩ rfl ?_
                                  first | refine al_ro' (ro_call (evL_cons (up_m rfl up_h) (evL_cons up_h evL_nil)) rfl (same_none _ _ (by omega) _) k42_hcf53) ⟨_, rfl, (u2 rfl hb_28)⟩ rfl ?_ | refine al_ro' (ro_call (evL_cons (up_m rfl up_h) (evL_cons up_h evL_nil)) rfl (rSame_ok _ _ _ _ (by omega) (by omega)) k42_hcf53) ⟨_, rfl, (u2 rfl hb_28)⟩ rfl ?_
                                  refine al_ro' (ro_pickT (up_m rfl (u2 rfl hb_28)) up_h) trivial rfl ?_
                                  refine al_ro' (ro_assign up_h) trivial rfl ?_
                                  refine al_end (fun e_29 he_29 => ?_)
                                  have s4_29 := ef 4 he_29 up_h
                                  clear he_29 hb_26 hb_27 hb_28 s10_24 s2_24 s3_24 s50_24 s5_24 s6_24 s7_24 s8_24 s9_24
                                  refine then_n ?_
                                  refine aw_ret ?_
                                  refine then_r ?_
                                  refine ret1 (.inr rfl) (by kernel_rfl) (resV_tmp s4_29) (.ro _ rfl) ?_
                                  clear s4_29 mo4_21 mo3_21 mo2_21 mo1_21 mo0_21 ml_21
                                  (first | rfl | exact congrArg (fun b => bA b) hs1 | exact congrArg (fun b => bA b) hs2 | (simp [hs1, hs2]; done) | (rw [hja] at *; exfalso; omega) | (exfalso; omega)))
                             · skip
                               first
                               | (cases hq_28; done) | ((first | replace hq_28 := bnt hq_28 | replace hq_28 := bnf hq_28 | replace hq_28 := bt hq_28 | replace hq_28 := bf hq_28 | replace hq_28 := bt' hq_28 | replace hq_28 := bf' hq_28 | skip); exfalso; omega) | (exact absurd (hs1.symm.trans hq_28) (by decide)) | (exact absurd (hs2.symm.trans hq_28) (by decide)) | (exact absurd (hsj.symm.trans hq_28) (by decide)) | (exact absurd (hsr.symm.trans hq_28) (by decide))
                               | ((first | replace hq_28 := bnt hq_28 | replace hq_28 := bnf hq_28 | replace hq_28 := bt hq_28 | replace hq_28 := bf hq_28 | replace hq_28 := bt' hq_28 | replace hq_28 := bf' hq_28 | skip)
                                  refine al_skip' ⟨_, rfl, .inl hb_28⟩ rfl ?_
                                  refine al_skip' ⟨_, rfl, .inl (up_m rfl hb_28)⟩ rfl ?_
                                  refine al_skip' ⟨_, rfl, .inl (u2 rfl hb_28)⟩ rfl ?_
                                  refine al_ro' (ro_pickF (up_m rfl (u2 rfl hb_28)) ev_c) trivial rfl ?_
                                  refine al_ro' (ro_assign up_h) trivial rfl ?_
                                  refine al_end (fun e_30 he_30 => ?_)
                                  have s4_30 := ef 4 he_30 up_h
                                  clear he_30 hb_26 hb_27 hb_28 s10_24 s2_24 s3_24 s50_24 s5_24 s6_24 s7_24 s8_24 s9_24
                                  refine then_n ?_
                                  refine aw_ret ?_
                                  refine then_r ?_
                                  refine ret1 (.inr rfl) (by kernel_rfl) (resV_tmp s4_30) (.ro _ rfl) ?_
                                  clear s4_30 mo4_21 mo3_21 mo2_21 mo1_21 mo0_21 ml_21
                                  (first | rfl | exact congrArg (fun b => bA b) hs1 | exact congrArg (fun b => bA b) hs2 | (simp [hs1, hs2]; done) | (rw [hja] at *; exfalso; omega) | (exfalso; omega))))
                        · skip
                          first
                          | (cases hq_27; done) | ((first | replace hq_27 := bnt hq_27 | replace hq_27 := bnf hq_27 | replace hq_27 := bt hq_27 | replace hq_27 := bf hq_27 | replace hq_27 := bt' hq_27 | replace hq_27 := bf' hq_27 | skip); exfalso; omega) | (exact absurd (hs1.symm.trans hq_27) (by decide)) | (exact absurd (hs2.symm.trans hq_27) (by decide)) | (exact absurd (hsj.symm.trans hq_27) (by decide)) | (exact absurd (hsr.symm.trans hq_27) (by decide))
                          | ((first | replace hq_27 := bnt hq_27 | replace hq_27 := bnf hq_27 | replace hq_27 := bt hq_27 | replace hq_27 := bf hq_27 | replace hq_27 := bt' hq_27 | replace hq_27 := bf' hq_27 | skip)
                             refine al_skip' ⟨_, rfl, .inl hb_27⟩ rfl ?_
                             refine al_skip' ⟨_, rfl, .inl (up_m rfl hb_27)⟩ rfl ?_
                             refine al_skip' ⟨_, rfl, .inl (u2 rfl hb_27)⟩ rfl ?_
                             refine al_ro' (ro_pickF (up_m rfl (u2 rfl hb_27)) ev_c) trivial rfl ?_
                             refine al_ro' (ro_move up_h) trivial rfl ?_
                             refine al_skip' ⟨_, rfl, .inl up_h⟩ rfl ?_
                             refine al_skip' ⟨_, rfl, .inl (up_m rfl up_h)⟩ rfl ?_
                             refine al_skip' ⟨_, rfl, .inl (u2 rfl up_h)⟩ rfl ?_
                             refine al_ro' (ro_pickF (up_m rfl (u2 rfl up_h)) ev_c) trivial rfl ?_
                             refine al_ro' (ro_assign up_h) trivial rfl ?_
                             refine al_end (fun e_31 he_31 => ?_)
                             have s4_31 := ef 4 he_31 up_h
                             clear he_31 hb_26 hb_27 s10_24 s2_24 s3_24 s50_24 s5_24 s6_24 s7_24 s8_24 s9_24
                             refine then_n ?_
                             refine aw_ret ?_
                             refine then_r ?_
                             refine ret1 (.inr rfl) (by kernel_rfl) (resV_tmp s4_31) (.ro _ rfl) ?_
                             clear s4_31 mo4_21 mo3_21 mo2_21 mo1_21 mo0_21 ml_21
                             (first | rfl | exact congrArg (fun b => bA b) hs1 | exact congrArg (fun b => bA b) hs2 | (simp [hs1, hs2]; done) | (rw [hja] at *; exfalso; omega) | (exfalso; omega))))
                   · skip
                     first
                     | (cases hq_26; done) | ((first | replace hq_26 := bnt hq_26 | replace hq_26 := bnf hq_26 | replace hq_26 := bt hq_26 | replace hq_26 := bf hq_26 | replace hq_26 := bt' hq_26 | replace hq_26 := bf' hq_26 | skip); exfalso; omega) | (exact absurd (hs1.symm.trans hq_26) (by decide)) | (exact absurd (hs2.symm.trans hq_26) (by decide)) | (exact absurd (hsj.symm.trans hq_26) (by decide)) | (exact absurd (hsr.symm.trans hq_26) (by decide))
                     | ((first | replace hq_26 := bnt hq_26 | replace hq_26 := bnf hq_26 | replace hq_26 := bt hq_26 | replace hq_26 := bf hq_26 | replace hq_26 := bt' hq_26 | replace hq_26 := bf' hq_26 | skip)
                        refine al_skip' ⟨_, rfl, .inl hb_26⟩ rfl ?_
                        refine al_skip' ⟨_, rfl, .inl (up_m rfl hb_26)⟩ rfl ?_
                        refine al_skip' ⟨_, rfl, .inl (u2 rfl hb_26)⟩ rfl ?_
                        refine al_ro' (ro_pickF (up_m rfl (u2 rfl hb_26)) ev_c) trivial rfl ?_
                        refine al_ro' (ro_move up_h) trivial rfl ?_
                        refine al_skip' ⟨_, rfl, .inl up_h⟩ rfl ?_
                        refine al_skip' ⟨_, rfl, .inl (up_m rfl up_h)⟩ rfl ?_
                        refine al_skip' ⟨_, rfl, .inl (u2 rfl up_h)⟩ rfl ?_
                        refine al_ro' (ro_pickF (up_m rfl (u2 rfl up_h)) ev_c) trivial rfl ?_
                        refine al_ro' (ro_move up_h) trivial rfl ?_
                        refine al_skip' ⟨_, rfl, .inl up_h⟩ rfl ?_
                        refine al_skip' ⟨_, rfl, .inl (up_m rfl up_h)⟩ rfl ?_
                        refine al_skip' ⟨_, rfl, .inl (u2 rfl up_h)⟩ rfl ?_
                        refine al_ro' (ro_pickF (up_m rfl (u2 rfl up_h)) ev_c) trivial rfl ?_
                        refine al_ro' (ro_assign up_h) trivial rfl ?_
                        refine al_end (fun e_32 he_32 => ?_)
                        have s4_32 := ef 4 he_32 up_h
                        clear he_32 hb_26 s10_24 s2_24 s3_24 s50_24 s5_24 s6_24 s7_24 s8_24 s9_24
                        refine then_n ?_
                        refine aw_ret ?_
                        refine then_r ?_
                        refine ret1 (.inr rfl) (by kernel_rfl) (resV_tmp s4_32) (.ro _ rfl) ?_
                        clear s4_32 mo4_21 mo3_21 mo2_21 mo1_21 mo0_21 ml_21
                        (first | rfl | exact congrArg (fun b => bA b) hs1 | exact congrArg (fun b => bA b) hs2 | (simp [hs1, hs2]; done) | (rw [hja] at *; exfalso; omega) | (exfalso; omega))))
              · skip
                first
                | (cases hq_25; done) | ((first | replace hq_25 := bnt hq_25 | replace hq_25 := bnf hq_25 | replace hq_25 := bt hq_25 | replace hq_25 := bf hq_25 | replace hq_25 := bt' hq_25 | replace hq_25 := bf' hq_25 | skip); exfalso; omega) | (exact absurd (hs1.symm.trans hq_25) (by decide)) | (exact absurd (hs2.symm.trans hq_25) (by decide)) | (exact absurd (hsj.symm.trans hq_25) (by decide)) | (exact absurd (hsr.symm.trans hq_25) (by decide))
                | ((first | replace hq_25 := bnt hq_25 | replace hq_25 := bnf hq_25 | replace hq_25 := bt hq_25 | replace hq_25 := bf hq_25 | replace hq_25 := bt' hq_25 | replace hq_25 := bf' hq_25 | skip)
                   (have hz : (chk na ps).2 = 0 := (by omega); have hR := chk_right hz; have hg1 := rv_good hz; have hsr : samB (rvN na ps) (rvQ na ps) na (rvP ps) = true := (by rw [hg1.1, hg1.2]; exact samB_refl _ _); have hsa := samB_refl na ps)
                   refine aw_skip ?_
                   refine then_n ?_
                   refine aw_seq ?_
                   refine aw_seq ?_
                   refine aw_cut (fun e mem => (evA e (.tmp 77) = .v (.bool false)) ∧ (evA e (.tmp 2) = evA e_24 (.tmp 2)) ∧ (evA e (.tmp 3) = evA e_24 (.tmp 3)) ∧ (evA e (.tmp 5) = evA e_24 (.tmp 5)) ∧ (evA e (.tmp 7) = evA e_24 (.tmp 7)) ∧ (evA e (.tmp 8) = evA e_24 (.tmp 8)) ∧ (evA e (.tmp 9) = evA e_24 (.tmp 9)) ∧ m_21 = mem) ?_ ?_
                   ·
                     refine aw_draw 9 (by kernel_rfl) (by kernel_rfl) (by kernel_rfl) (by kernel_rfl) ?_
                     refine ds_ro' (ro_move s6_24) trivial rfl ?_
                     refine ds_ro' (ro_neq up_h ev_c) trivial rfl ?_
                     refine ds_ro' (ro_move up_h) trivial rfl ?_
                     refine ds_case up_h (fun hb_34 hq_34 => ?_) (fun hb_34 hq_34 => ?_)
                     · skip
                       first
                       | (cases hq_34; done) | ((first | replace hq_34 := bnt hq_34 | replace hq_34 := bnf hq_34 | replace hq_34 := bt hq_34 | replace hq_34 := bf hq_34 | replace hq_34 := bt' hq_34 | replace hq_34 := bf' hq_34 | skip); exfalso; omega) | (exact absurd (hs1.symm.trans hq_34) (by decide)) | (exact absurd (hs2.symm.trans hq_34) (by decide)) | (exact absurd (hsj.symm.trans hq_34) (by decide)) | (exact absurd (hsr.symm.trans hq_34) (by decide))
                       | ((first | replace hq_34 := bnt hq_34 | replace hq_34 := bnf hq_34 | replace hq_34 := bt hq_34 | replace hq_34 := bf hq_34 | replace hq_34 := bt' hq_34 | replace hq_34 := bf' hq_34 | skip)
                          refine ds_skip' ⟨_, rfl, .inl hb_34⟩ rfl ?_
                          refine ds_skip' ⟨_, rfl, .inl (up_m rfl hb_34)⟩ rfl ?_
                          refine ds_skip' ⟨_, rfl, .inl (u2 rfl hb_34)⟩ rfl ?_
                          refine ds_skip' ⟨_, rfl, .inl (up_m rfl (u2 rfl hb_34))⟩ rfl ?_
                          refine ds_skip' ⟨_, rfl, .inl (u4 rfl hb_34)⟩ rfl ?_
                          refine ds_ro' (ro_pickT (up_m rfl (u4 rfl hb_34)) ev_c) trivial rfl ?_
                          refine ds_nil ?_
                          refine al_end (fun e_35 he_35 => ?_)
                          have s2_35 := ef 2 he_35 (up_m rfl (u8 rfl s2_24))
                          have s3_35 := ef 3 he_35 (up_m rfl (u8 rfl s3_24))
                          have s5_35 := ef 5 he_35 (up_m rfl (u8 rfl s5_24))
                          have s7_35 := ef 7 he_35 (up_m rfl (u8 rfl s7_24))
                          have s8_35 := ef 8 he_35 (up_m rfl (u8 rfl s8_24))
                          have s9_35 := ef 9 he_35 (up_m rfl (u8 rfl s9_24))
                          have s77_35 := ef 77 he_35 up_h
                          clear he_35
                          refine then_n ⟨(s77_35).trans (by (first | rfl | (refine avb ?_; simp [hz, hsr]; done) | (refine avb ?_; simp; omega))), (s2_35).trans (s2_24).symm, (s3_35).trans (s3_24).symm, (s5_35).trans (s5_24).symm, (s7_35).trans (s7_24).symm, (s8_35).trans (s8_24).symm, (s9_35).trans (s9_24).symm, rfl⟩)
                     · skip
                       first
                       | (cases hq_34; done) | ((first | replace hq_34 := bnt hq_34 | replace hq_34 := bnf hq_34 | replace hq_34 := bt hq_34 | replace hq_34 := bf hq_34 | replace hq_34 := bt' hq_34 | replace hq_34 := bf' hq_34 | skip); exfalso; omega) | (exact absurd (hs1.symm.trans hq_34) (by decide)) | (exact absurd (hs2.symm.trans hq_34) (by decide)) | (exact absurd (hsj.symm.trans hq_34) (by decide)) | (exact absurd (hsr.symm.trans hq_34) (by decide))
                       | ((first | replace hq_34 := bnt hq_34 | replace hq_34 := bnf hq_34 | replace hq_34 := bt hq_34 | replace hq_34 := bf hq_34 | replace hq_34 := bt' hq_34 | replace hq_34 := bf' hq_34 | skip)
                          refine ds_ro' (ro_eq (ro_ld_ptr k42_ty24 rfl mo2_21 (up_m rfl (u2 rfl s5_24)) (by first | exact Nat.le_of_ble_eq_true rfl | omega | (simp only [lnS] <;> omega) | (simp <;> omega))) (by first | (simp only [packA_t, packA_f, iE, bE, setAt, cellsA, Value.cells, map_vc, map_vn, Nat.reduceAdd, qS] <;> rfl) | rfl)) ⟨_, rfl, hb_34⟩ rfl ?_
                          refine ds_ro' (ro_eq (ro_ld_ptr k42_ty24 rfl mo0_21 (u4 rfl s2_24) (by first | exact Nat.le_of_ble_eq_true rfl | omega | (simp only [lnS] <;> omega) | (simp <;> omega))) (by first | (simp only [packA_t, packA_f, iE, bE, setAt, cellsA, Value.cells, map_vc, map_vn, Nat.reduceAdd, qS] <;> rfl) | rfl)) ⟨_, rfl, (up_m rfl hb_34)⟩ rfl ?_
                          refine ds_ro' (ro_call (evL_cons up_h evL_nil) rfl (rReversed_ok na ps hR.1 (by omega)) k42_hcf54) ⟨_, rfl, (u2 rfl hb_34)⟩ rfl ?_
                          first | refine ds_ro' (ro_call (evL_cons (u2 rfl up_h) (evL_cons up_h evL_nil)) rfl (same_none _ _ (by omega) _) k42_hcf53) ⟨_, rfl, (up_m rfl (u2 rfl hb_34))⟩ rfl ?_ | refine ds_ro' (ro_call (evL_cons (u2 rfl up_h) (evL_cons up_h evL_nil)) rfl (rSame_ok _ _ _ _ (by omega) (by omega)) k42_hcf53) ⟨_, rfl, (up_m rfl (u2 rfl hb_34))⟩ rfl ?_
                          refine ds_ro' (ro_not up_h) ⟨_, rfl, (u4 rfl hb_34)⟩ rfl ?_
                          refine ds_ro' (ro_pickF (up_m rfl (u4 rfl hb_34)) up_h) trivial rfl ?_
                          refine ds_nil ?_
                          refine al_end (fun e_36 he_36 => ?_)
                          have s2_36 := ef 2 he_36 (up_m rfl (u8 rfl s2_24))
                          have s3_36 := ef 3 he_36 (up_m rfl (u8 rfl s3_24))
                          have s5_36 := ef 5 he_36 (up_m rfl (u8 rfl s5_24))
                          have s7_36 := ef 7 he_36 (up_m rfl (u8 rfl s7_24))
                          have s8_36 := ef 8 he_36 (up_m rfl (u8 rfl s8_24))
                          have s9_36 := ef 9 he_36 (up_m rfl (u8 rfl s9_24))
                          have s77_36 := ef 77 he_36 up_h
                          clear he_36
                          refine then_n ⟨(s77_36).trans (by (first | rfl | (refine avb ?_; simp [hz, hsr]; done) | (refine avb ?_; simp; omega))), (s2_36).trans (s2_24).symm, (s3_36).trans (s3_24).symm, (s5_36).trans (s5_24).symm, (s7_36).trans (s7_24).symm, (s8_36).trans (s8_24).symm, (s9_36).trans (s9_24).symm, rfl⟩)
                   · rintro e_33 _ ⟨s77_33, k2_33, k3_33, k5_33, k7_33, k8_33, k9_33, rfl⟩
                     have s2_33 := k2_33.trans s2_24
                     have s3_33 := k3_33.trans s3_24
                     have s5_33 := k5_33.trans s5_24
                     have s7_33 := k7_33.trans s7_24
                     have s8_33 := k8_33.trans s8_24
                     have s9_33 := k9_33.trans s9_24
                     refine aw_case s77_33 (fun hq_37 => ?_) (fun hq_37 => ?_)
                     · skip
                       first
                       | (cases hq_37; done) | ((first | replace hq_37 := bnt hq_37 | replace hq_37 := bnf hq_37 | replace hq_37 := bt hq_37 | replace hq_37 := bf hq_37 | replace hq_37 := bt' hq_37 | replace hq_37 := bf' hq_37 | skip); exfalso; omega) | (exact absurd (hs1.symm.trans hq_37) (by decide)) | (exact absurd (hs2.symm.trans hq_37) (by decide)) | (exact absurd (hsj.symm.trans hq_37) (by decide)) | (exact absurd (hsr.symm.trans hq_37) (by decide))
                       | ((first | replace hq_37 := bnt hq_37 | replace hq_37 := bnf hq_37 | replace hq_37 := bt hq_37 | replace hq_37 := bf hq_37 | replace hq_37 := bt' hq_37 | replace hq_37 := bf' hq_37 | skip)
                          refine aw_seq ?_
                          refine aw_text (by kernel_rfl) ?_
                          refine al_ro' (ro_assign ev_c) trivial rfl ?_
                          refine al_end (fun e_38 he_38 => ?_)
                          have s4_38 := ef 4 he_38 up_h
                          clear he_38 s2_33 s3_33 s5_33 s77_33 s7_33 s8_33 s9_33
                          refine then_n ?_
                          refine aw_ret ?_
                          refine then_r ?_
                          refine ret1 (.inr rfl) (by kernel_rfl) (resV_tmp s4_38) (.ro _ rfl) ?_
                          clear s4_38 mo4_21 mo3_21 mo2_21 mo1_21 mo0_21 ml_21
                          (first | rfl | exact congrArg (fun b => bA b) hs1 | exact congrArg (fun b => bA b) hs2 | (simp [hs1, hs2]; done) | (rw [hja] at *; exfalso; omega) | (exfalso; omega)))
                     · skip
                       first
                       | (cases hq_37; done) | ((first | replace hq_37 := bnt hq_37 | replace hq_37 := bnf hq_37 | replace hq_37 := bt hq_37 | replace hq_37 := bf hq_37 | replace hq_37 := bt' hq_37 | replace hq_37 := bf' hq_37 | skip); exfalso; omega) | (exact absurd (hs1.symm.trans hq_37) (by decide)) | (exact absurd (hs2.symm.trans hq_37) (by decide)) | (exact absurd (hsj.symm.trans hq_37) (by decide)) | (exact absurd (hsr.symm.trans hq_37) (by decide))
                       | ((first | replace hq_37 := bnt hq_37 | replace hq_37 := bnf hq_37 | replace hq_37 := bt hq_37 | replace hq_37 := bf hq_37 | replace hq_37 := bt' hq_37 | replace hq_37 := bf' hq_37 | skip)
                          refine aw_skip ?_
                          refine then_n ?_
                          refine aw_seq ?_
                          refine aw_text (by kernel_rfl) ?_
                          refine al_ro' (ro_eq (ro_ld_ptr k42_ty24 rfl mo2_21 s5_33 (by first | exact Nat.le_of_ble_eq_true rfl | omega | (simp only [lnS] <;> omega) | (simp <;> omega))) (by first | (simp only [packA_t, packA_f, iE, bE, setAt, cellsA, Value.cells, map_vc, map_vn, Nat.reduceAdd, qS] <;> rfl) | rfl)) trivial rfl ?_
                          first | refine al_ro' (ro_call (evL_cons up_h evL_nil) rfl (rCopy_ok na ps (by omega)) k42_hcf18) trivial rfl ?_ | refine al_ro' (ro_call (evL_cons up_h evL_nil) rfl (rCopy_ok nb qs (by omega)) k42_hcf18) trivial rfl ?_ | refine al_ro' (ro_call (evL_cons up_h evL_nil) rfl (rCopy_ok (rvN na ps) (rvQ na ps) (by omega)) k42_hcf18) trivial rfl ?_ | refine al_ro' (ro_call (evL_cons up_h evL_nil) rfl (rCopy_ok (jnN na ps nb qs) (jnP na ps nb qs) (by omega)) k42_hcf18) trivial rfl ?_
                          refine al_ro' (ro_call (evL_cons up_h evL_nil) rfl (reversed2_ok hz (by omega) (by omega)) k42_hcf51) trivial rfl ?_
                          refine al_ro' (ro_move up_h) trivial rfl ?_
                          refine al_ro' (ro_extract up_h rfl) trivial rfl ?_
                          refine al_ro' (ro_extract (up_m rfl up_h) rfl) trivial rfl ?_
                          refine al_stm (st_alloc k42_az24 rfl ml_21) trivial rfl (fun m_39 hm_39 => ?_)
                          have mo5_39 := m_push hm_39 ml_21
                          (try simp only [packA_t, packA_f, iE, bE, setAt, cellsA, Value.cells, map_vc, map_vn, Nat.reduceAdd, qS] at mo5_39)
                          have mo4_39 := m_push_o hm_39 mo4_21
                          have mo3_39 := m_push_o hm_39 mo3_21
                          have mo2_39 := m_push_o hm_39 mo2_21
                          have mo1_39 := m_push_o hm_39 mo1_21
                          have mo0_39 := m_push_o hm_39 mo0_21
                          have ml_39 := m_push_l hm_39 ml_21
                          have ml_39 : _ = 6 := ml_39
                          clear hm_39 mo4_21 mo3_21 mo2_21 mo1_21 mo0_21
                          refine al_stm (st_store up_h (u2 rfl up_h) rfl rfl mo5_39 k42_sz24 rfl (by first | exact Nat.le_of_ble_eq_true rfl | omega | (simp only [lnS] <;> omega) | (simp <;> omega))) trivial rfl (fun m_40 hm_40 => ?_)
                          have mo5_40 := m_set hm_40 mo5_39
                          (try simp only [packA_t, packA_f, iE, bE, setAt, cellsA, Value.cells, map_vc, map_vn, Nat.reduceAdd, qS] at mo5_40)
                          have mo4_40 := m_set_o hm_40 mo4_39 (by decide)
                          have mo3_40 := m_set_o hm_40 mo3_39 (by decide)
                          have mo2_40 := m_set_o hm_40 mo2_39 (by decide)
                          have mo1_40 := m_set_o hm_40 mo1_39 (by decide)
                          have mo0_40 := m_set_o hm_40 mo0_39 (by decide)
                          have ml_40 := m_set_l hm_40 ml_39
                          clear hm_40 mo5_39 mo4_39 mo3_39 mo2_39 mo1_39 mo0_39
                          refine al_ro' (ro_assign (up_n (up_m rfl up_h))) trivial rfl ?_
                          refine al_end (fun e_41 he_41 => ?_)
                          have s2_41 := ef 2 he_41 (up_m rfl (up_n (up_m rfl (u2 rfl (u4 rfl s2_33)))))
                          have s3_41 := ef 3 he_41 (up_m rfl (up_n (up_m rfl (u2 rfl (u4 rfl s3_33)))))
                          have s7_41 := ef 7 he_41 (up_m rfl (up_n (up_m rfl (u2 rfl (u4 rfl s7_33)))))
                          have s8_41 := ef 8 he_41 (up_m rfl (up_n (up_m rfl (u2 rfl (u4 rfl s8_33)))))
                          have s9_41 := ef 9 he_41 (up_m rfl (up_n (up_m rfl (u2 rfl (u4 rfl s9_33)))))
                          have s11_41 := ef 11 he_41 (up_m rfl (up_n up_h))
                          have s12_41 := ef 12 he_41 up_h
                          clear he_41 s2_33 s3_33 s5_33 s77_33 s7_33 s8_33 s9_33
                          refine then_n ?_
                          refine aw_seq ?_
                          refine aw_seq ?_
                          refine aw_cut (fun e mem => (evA e (.tmp 91) = .v (.bool false)) ∧ (evA e (.tmp 2) = evA e_41 (.tmp 2)) ∧ (evA e (.tmp 3) = evA e_41 (.tmp 3)) ∧ (evA e (.tmp 7) = evA e_41 (.tmp 7)) ∧ (evA e (.tmp 8) = evA e_41 (.tmp 8)) ∧ (evA e (.tmp 9) = evA e_41 (.tmp 9)) ∧ m_40 = mem) ?_ ?_
                          ·
                            refine aw_text (by kernel_rfl) ?_
                            refine al_ro' (ro_move s12_41) trivial rfl ?_
                            refine al_ro' (ro_neq up_h ev_c) trivial rfl ?_
                            refine al_ro' (ro_move up_h) trivial rfl ?_
                            refine al_case up_h (fun hb_43 hq_43 => ?_) (fun hb_43 hq_43 => ?_)
                            · skip
                              first
                              | (cases hq_43; done) | ((first | replace hq_43 := bnt hq_43 | replace hq_43 := bnf hq_43 | replace hq_43 := bt hq_43 | replace hq_43 := bf hq_43 | replace hq_43 := bt' hq_43 | replace hq_43 := bf' hq_43 | skip); exfalso; omega) | (exact absurd (hs1.symm.trans hq_43) (by decide)) | (exact absurd (hs2.symm.trans hq_43) (by decide)) | (exact absurd (hsj.symm.trans hq_43) (by decide)) | (exact absurd (hsr.symm.trans hq_43) (by decide))
                              | ((first | replace hq_43 := bnt hq_43 | replace hq_43 := bnf hq_43 | replace hq_43 := bt hq_43 | replace hq_43 := bf hq_43 | replace hq_43 := bt' hq_43 | replace hq_43 := bf' hq_43 | skip)
                                 refine al_skip' ⟨_, rfl, .inl hb_43⟩ rfl ?_
                                 refine al_skip' ⟨_, rfl, .inl (up_m rfl hb_43)⟩ rfl ?_
                                 refine al_skip' ⟨_, rfl, .inl (u2 rfl hb_43)⟩ rfl ?_
                                 refine al_skip' ⟨_, rfl, .inl (up_m rfl (u2 rfl hb_43))⟩ rfl ?_
                                 refine al_ro' (ro_pickT (u4 rfl hb_43) ev_c) trivial rfl ?_
                                 refine al_end (fun e_44 he_44 => ?_)
                                 have s2_44 := ef 2 he_44 (u8 rfl s2_41)
                                 have s3_44 := ef 3 he_44 (u8 rfl s3_41)
                                 have s7_44 := ef 7 he_44 (u8 rfl s7_41)
                                 have s8_44 := ef 8 he_44 (u8 rfl s8_41)
                                 have s9_44 := ef 9 he_44 (u8 rfl s9_41)
                                 have s91_44 := ef 91 he_44 up_h
                                 clear he_44
                                 refine then_n ⟨(s91_44).trans (by (first | rfl | (refine avb ?_; simp [hsa]; done) | (refine avb ?_; simp; omega))), (s2_44).trans (s2_41).symm, (s3_44).trans (s3_41).symm, (s7_44).trans (s7_41).symm, (s8_44).trans (s8_41).symm, (s9_44).trans (s9_41).symm, rfl⟩)
                            · skip
                              first
                              | (cases hq_43; done) | ((first | replace hq_43 := bnt hq_43 | replace hq_43 := bnf hq_43 | replace hq_43 := bt hq_43 | replace hq_43 := bf hq_43 | replace hq_43 := bt' hq_43 | replace hq_43 := bf' hq_43 | skip); exfalso; omega) | (exact absurd (hs1.symm.trans hq_43) (by decide)) | (exact absurd (hs2.symm.trans hq_43) (by decide)) | (exact absurd (hsj.symm.trans hq_43) (by decide)) | (exact absurd (hsr.symm.trans hq_43) (by decide))
                              | ((first | replace hq_43 := bnt hq_43 | replace hq_43 := bnf hq_43 | replace hq_43 := bt hq_43 | replace hq_43 := bf hq_43 | replace hq_43 := bt' hq_43 | replace hq_43 := bf' hq_43 | skip)
                                 refine al_ro' (ro_eq (ro_ld_ptr k42_ty24 rfl mo5_40 (up_m rfl (u2 rfl s11_41)) (by first | exact Nat.le_of_ble_eq_true rfl | omega | (simp only [lnS] <;> omega) | (simp <;> omega))) (by first | (simp only [packA_t, packA_f, iE, bE, setAt, cellsA, Value.cells, map_vc, map_vn, Nat.reduceAdd, qS] <;> rfl) | rfl)) ⟨_, rfl, hb_43⟩ rfl ?_
                                 refine al_ro' (ro_eq (ro_ld_ptr k42_ty24 rfl mo0_40 (u4 rfl s2_41) (by first | exact Nat.le_of_ble_eq_true rfl | omega | (simp only [lnS] <;> omega) | (simp <;> omega))) (by first | (simp only [packA_t, packA_f, iE, bE, setAt, cellsA, Value.cells, map_vc, map_vn, Nat.reduceAdd, qS] <;> rfl) | rfl)) ⟨_, rfl, (up_m rfl hb_43)⟩ rfl ?_
                                 first | refine al_ro' (ro_call (evL_cons (up_m rfl up_h) (evL_cons up_h evL_nil)) rfl (same_none _ _ (by omega) _) k42_hcf53) ⟨_, rfl, (u2 rfl hb_43)⟩ rfl ?_ | refine al_ro' (ro_call (evL_cons (up_m rfl up_h) (evL_cons up_h evL_nil)) rfl (rSame_ok _ _ _ _ (by omega) (by omega)) k42_hcf53) ⟨_, rfl, (u2 rfl hb_43)⟩ rfl ?_
                                 refine al_ro' (ro_not up_h) ⟨_, rfl, (up_m rfl (u2 rfl hb_43))⟩ rfl ?_
                                 refine al_ro' (ro_pickF (u4 rfl hb_43) up_h) trivial rfl ?_
                                 refine al_end (fun e_45 he_45 => ?_)
                                 have s2_45 := ef 2 he_45 (u8 rfl s2_41)
                                 have s3_45 := ef 3 he_45 (u8 rfl s3_41)
                                 have s7_45 := ef 7 he_45 (u8 rfl s7_41)
                                 have s8_45 := ef 8 he_45 (u8 rfl s8_41)
                                 have s9_45 := ef 9 he_45 (u8 rfl s9_41)
                                 have s91_45 := ef 91 he_45 up_h
                                 clear he_45
                                 refine then_n ⟨(s91_45).trans (by (first | rfl | (refine avb ?_; simp [hsa]; done) | (refine avb ?_; simp; omega))), (s2_45).trans (s2_41).symm, (s3_45).trans (s3_41).symm, (s7_45).trans (s7_41).symm, (s8_45).trans (s8_41).symm, (s9_45).trans (s9_41).symm, rfl⟩)
                          · rintro e_42 _ ⟨s91_42, k2_42, k3_42, k7_42, k8_42, k9_42, rfl⟩
                            have s2_42 := k2_42.trans s2_41
                            have s3_42 := k3_42.trans s3_41
                            have s7_42 := k7_42.trans s7_41
                            have s8_42 := k8_42.trans s8_41
                            have s9_42 := k9_42.trans s9_41
                            refine aw_case s91_42 (fun hq_46 => ?_) (fun hq_46 => ?_)
                            · skip
                              first
                              | (cases hq_46; done) | ((first | replace hq_46 := bnt hq_46 | replace hq_46 := bnf hq_46 | replace hq_46 := bt hq_46 | replace hq_46 := bf hq_46 | replace hq_46 := bt' hq_46 | replace hq_46 := bf' hq_46 | skip); exfalso; omega) | (exact absurd (hs1.symm.trans hq_46) (by decide)) | (exact absurd (hs2.symm.trans hq_46) (by decide)) | (exact absurd (hsj.symm.trans hq_46) (by decide)) | (exact absurd (hsr.symm.trans hq_46) (by decide))
                              | ((first | replace hq_46 := bnt hq_46 | replace hq_46 := bnf hq_46 | replace hq_46 := bt hq_46 | replace hq_46 := bf hq_46 | replace hq_46 := bt' hq_46 | replace hq_46 := bf' hq_46 | skip)
                                 refine aw_seq ?_
                                 refine aw_text (by kernel_rfl) ?_
                                 refine al_ro' (ro_assign ev_c) trivial rfl ?_
                                 refine al_end (fun e_47 he_47 => ?_)
                                 have s4_47 := ef 4 he_47 up_h
                                 clear he_47 s2_42 s3_42 s7_42 s8_42 s91_42 s9_42
                                 refine then_n ?_
                                 refine aw_ret ?_
                                 refine then_r ?_
                                 refine ret1 (.inr rfl) (by kernel_rfl) (resV_tmp s4_47) (.ro _ rfl) ?_
                                 clear s4_47 mo5_40 mo4_40 mo3_40 mo2_40 mo1_40 mo0_40 ml_40
                                 (first | rfl | exact congrArg (fun b => bA b) hs1 | exact congrArg (fun b => bA b) hs2 | (simp [hs1, hs2]; done) | (rw [hja] at *; exfalso; omega) | (exfalso; omega)))
                            · skip
                              first
                              | (cases hq_46; done) | ((first | replace hq_46 := bnt hq_46 | replace hq_46 := bnf hq_46 | replace hq_46 := bt hq_46 | replace hq_46 := bf hq_46 | replace hq_46 := bt' hq_46 | replace hq_46 := bf' hq_46 | skip); exfalso; omega) | (exact absurd (hs1.symm.trans hq_46) (by decide)) | (exact absurd (hs2.symm.trans hq_46) (by decide)) | (exact absurd (hsj.symm.trans hq_46) (by decide)) | (exact absurd (hsr.symm.trans hq_46) (by decide))
                              | ((first | replace hq_46 := bnt hq_46 | replace hq_46 := bnf hq_46 | replace hq_46 := bt hq_46 | replace hq_46 := bf hq_46 | replace hq_46 := bt' hq_46 | replace hq_46 := bf' hq_46 | skip)
                                 refine aw_skip ?_
                                 refine then_n ?_
                                 refine aw_seq ?_
                                 refine aw_text (by kernel_rfl) ?_
                                 refine al_ro' (ro_eq (ro_ld_ptr k42_ty24 rfl mo1_40 s3_42 (by first | exact Nat.le_of_ble_eq_true rfl | omega | (simp only [lnS] <;> omega) | (simp <;> omega))) (by first | (simp only [packA_t, packA_f, iE, bE, setAt, cellsA, Value.cells, map_vc, map_vn, Nat.reduceAdd, qS] <;> rfl) | rfl)) trivial rfl ?_
                                 first | refine al_ro' (ro_call (evL_cons up_h evL_nil) rfl (rTrackErr_ok na ps (by omega) (by omega)) k42_hcf52) trivial rfl ?_ | refine al_ro' (ro_call (evL_cons up_h evL_nil) rfl (rTrackErr_ok nb qs (by omega) (by omega)) k42_hcf52) trivial rfl ?_
                                 refine al_ro' (ro_assign up_h) trivial rfl ?_
                                 refine al_end (fun e_48 he_48 => ?_)
                                 have s2_48 := ef 2 he_48 (up_m rfl (u2 rfl s2_42))
                                 have s3_48 := ef 3 he_48 (up_m rfl (u2 rfl s3_42))
                                 have s7_48 := ef 7 he_48 (up_m rfl (u2 rfl s7_42))
                                 have s8_48 := ef 8 he_48 (up_m rfl (u2 rfl s8_42))
                                 have s9_48 := ef 9 he_48 (up_m rfl (u2 rfl s9_42))
                                 have s13_48 := ef 13 he_48 up_h
                                 clear he_48 s2_42 s3_42 s7_42 s8_42 s91_42 s9_42
                                 refine then_n ?_
                                 refine aw_seq ?_
                                 refine aw_text (by kernel_rfl) ?_
                                 refine al_ro' (ro_eq (ro_ld_ptr k42_ty24 rfl mo4_40 s9_48 (by first | exact Nat.le_of_ble_eq_true rfl | omega | (simp only [lnS] <;> omega) | (simp <;> omega))) (by first | (simp only [packA_t, packA_f, iE, bE, setAt, cellsA, Value.cells, map_vc, map_vn, Nat.reduceAdd, qS] <;> rfl) | rfl)) trivial rfl ?_
                                 refine al_stm (st_alloc k42_az24 rfl ml_40) trivial rfl (fun m_49 hm_49 => ?_)
                                 have mo6_49 := m_push hm_49 ml_40
                                 (try simp only [packA_t, packA_f, iE, bE, setAt, cellsA, Value.cells, map_vc, map_vn, Nat.reduceAdd, qS] at mo6_49)
                                 have mo5_49 := m_push_o hm_49 mo5_40
                                 have mo4_49 := m_push_o hm_49 mo4_40
                                 have mo3_49 := m_push_o hm_49 mo3_40
                                 have mo2_49 := m_push_o hm_49 mo2_40
                                 have mo1_49 := m_push_o hm_49 mo1_40
                                 have mo0_49 := m_push_o hm_49 mo0_40
                                 have ml_49 := m_push_l hm_49 ml_40
                                 have ml_49 : _ = 7 := ml_49
                                 clear hm_49 mo5_40 mo4_40 mo3_40 mo2_40 mo1_40 mo0_40
                                 refine al_stm (st_store up_h (up_m rfl up_h) rfl rfl mo6_49 k42_sz24 rfl (by first | exact Nat.le_of_ble_eq_true rfl | omega | (simp only [lnS] <;> omega) | (simp <;> omega))) trivial rfl (fun m_50 hm_50 => ?_)
                                 have mo6_50 := m_set hm_50 mo6_49
                                 (try simp only [packA_t, packA_f, iE, bE, setAt, cellsA, Value.cells, map_vc, map_vn, Nat.reduceAdd, qS] at mo6_50)
                                 have mo5_50 := m_set_o hm_50 mo5_49 (by decide)
                                 have mo4_50 := m_set_o hm_50 mo4_49 (by decide)
                                 have mo3_50 := m_set_o hm_50 mo3_49 (by decide)
                                 have mo2_50 := m_set_o hm_50 mo2_49 (by decide)
                                 have mo1_50 := m_set_o hm_50 mo1_49 (by decide)
                                 have mo0_50 := m_set_o hm_50 mo0_49 (by decide)
                                 have ml_50 := m_set_l hm_50 ml_49
                                 clear hm_50 mo6_49 mo5_49 mo4_49 mo3_49 mo2_49 mo1_49 mo0_49
                                 refine al_end (fun e_51 he_51 => ?_)
                                 have s2_51 := ef 2 he_51 (up_n (u2 rfl s2_48))
                                 have s3_51 := ef 3 he_51 (up_n (u2 rfl s3_48))
                                 have s7_51 := ef 7 he_51 (up_n (u2 rfl s7_48))
                                 have s8_51 := ef 8 he_51 (up_n (u2 rfl s8_48))
                                 have s13_51 := ef 13 he_51 (up_n (u2 rfl s13_48))
                                 have s14_51 := ef 14 he_51 (up_n up_h)
                                 clear he_51 s13_48 s2_48 s3_48 s7_48 s8_48 s9_48
                                 refine then_n ?_
                                 refine aw_seq ?_
                                 refine aw_seq ?_
                                 refine aw_text (by kernel_rfl) ?_
                                 refine al_ro' (ro_move s13_51) trivial rfl ?_
                                 refine al_ro' (ro_eql up_h ev_c) trivial rfl ?_
                                 refine al_end (fun e_52 he_52 => ?_)
                                 have s2_52 := ef 2 he_52 (u2 rfl s2_51)
                                 have s3_52 := ef 3 he_52 (u2 rfl s3_51)
                                 have s7_52 := ef 7 he_52 (u2 rfl s7_51)
                                 have s8_52 := ef 8 he_52 (u2 rfl s8_51)
                                 have s13_52 := ef 13 he_52 (u2 rfl s13_51)
                                 have s14_52 := ef 14 he_52 (u2 rfl s14_51)
                                 have s96_52 := ef 96 he_52 up_h
                                 clear he_52 s13_51 s14_51 s2_51 s3_51 s7_51 s8_51
                                 refine then_n ?_
                                 refine aw_case s96_52 (fun hq_53 => ?_) (fun hq_53 => ?_)
                                 · skip
                                   first
                                   | (cases hq_53; done) | ((first | replace hq_53 := bnt hq_53 | replace hq_53 := bnf hq_53 | replace hq_53 := bt hq_53 | replace hq_53 := bf hq_53 | replace hq_53 := bt' hq_53 | replace hq_53 := bf' hq_53 | skip); exfalso; omega) | (exact absurd (hs1.symm.trans hq_53) (by decide)) | (exact absurd (hs2.symm.trans hq_53) (by decide)) | (exact absurd (hsj.symm.trans hq_53) (by decide)) | (exact absurd (hsr.symm.trans hq_53) (by decide))
                                   | ((first | replace hq_53 := bnt hq_53 | replace hq_53 := bnf hq_53 | replace hq_53 := bt hq_53 | replace hq_53 := bf hq_53 | replace hq_53 := bt' hq_53 | replace hq_53 := bf' hq_53 | skip)
                                      (have hzb : (chk nb qs).2 = 0 := (by omega); have hj := jn_rj hz hzb; have hje := hj.1; have hsj := hj.2; clear hj)
                                      refine aw_text (by kernel_rfl) ?_
                                      refine al_ro' (ro_eq (ro_ld_ptr k42_ty24 rfl mo0_50 s2_52 (by first | exact Nat.le_of_ble_eq_true rfl | omega | (simp only [lnS] <;> omega) | (simp <;> omega))) (by first | (simp only [packA_t, packA_f, iE, bE, setAt, cellsA, Value.cells, map_vc, map_vn, Nat.reduceAdd, qS] <;> rfl) | rfl)) trivial rfl ?_
                                      refine al_ro' (ro_eq (ro_ld_ptr k42_ty24 rfl mo1_50 (up_m rfl s3_52) (by first | exact Nat.le_of_ble_eq_true rfl | omega | (simp only [lnS] <;> omega) | (simp <;> omega))) (by first | (simp only [packA_t, packA_f, iE, bE, setAt, cellsA, Value.cells, map_vc, map_vn, Nat.reduceAdd, qS] <;> rfl) | rfl)) trivial rfl ?_
                                      refine al_ro' (ro_call (evL_cons (up_m rfl up_h) (evL_cons up_h evL_nil)) rfl (rJoined1_ok na ps nb qs (by intro h; have := hR.2.1; rw [h] at this; exact absurd this (by decide)) (by omega) (by omega)) k42_hcf55) trivial rfl ?_
                                      refine al_ro' (ro_move up_h) trivial rfl ?_
                                      refine al_ro' (ro_extract up_h rfl) trivial rfl ?_
                                      refine al_ro' (ro_extract (up_m rfl up_h) rfl) trivial rfl ?_
                                      refine al_stm (st_store (u2 rfl (u4 rfl s14_52)) (up_m rfl up_h) rfl rfl mo6_50 k42_sz24 rfl (by first | exact Nat.le_of_ble_eq_true rfl | omega | (simp only [lnS] <;> omega) | (simp <;> omega))) trivial rfl (fun m_54 hm_54 => ?_)
                                      have mo6_54 := m_set hm_54 mo6_50
                                      (try simp only [packA_t, packA_f, iE, bE, setAt, cellsA, Value.cells, map_vc, map_vn, Nat.reduceAdd, qS] at mo6_54)
                                      have mo5_54 := m_set_o hm_54 mo5_50 (by decide)
                                      have mo4_54 := m_set_o hm_54 mo4_50 (by decide)
                                      have mo3_54 := m_set_o hm_54 mo3_50 (by decide)
                                      have mo2_54 := m_set_o hm_54 mo2_50 (by decide)
                                      have mo1_54 := m_set_o hm_54 mo1_50 (by decide)
                                      have mo0_54 := m_set_o hm_54 mo0_50 (by decide)
                                      have ml_54 := m_set_l hm_54 ml_50
                                      clear hm_54 mo6_50 mo5_50 mo4_50 mo3_50 mo2_50 mo1_50 mo0_50
                                      refine al_ro' (ro_assign (up_n up_h)) trivial rfl ?_
                                      refine al_end (fun e_55 he_55 => ?_)
                                      have s2_55 := ef 2 he_55 (up_m rfl (up_n (u2 rfl (u4 rfl s2_52))))
                                      have s3_55 := ef 3 he_55 (up_m rfl (up_n (u2 rfl (u4 rfl s3_52))))
                                      have s7_55 := ef 7 he_55 (up_m rfl (up_n (u2 rfl (u4 rfl s7_52))))
                                      have s8_55 := ef 8 he_55 (up_m rfl (up_n (u2 rfl (u4 rfl s8_52))))
                                      have s13_55 := ef 13 he_55 up_h
                                      have s14_55 := ef 14 he_55 (up_m rfl (up_n (u2 rfl (u4 rfl s14_52))))
                                      clear he_55 s13_52 s14_52 s2_52 s3_52 s7_52 s8_52 s96_52
                                      refine then_n ?_
                                      refine aw_seq ?_
                                      refine aw_seq ?_
                                      refine aw_cut (fun e mem => (evA e (.tmp 111) = .v (.bool false)) ∧ (evA e (.tmp 2) = evA e_55 (.tmp 2)) ∧ (evA e (.tmp 3) = evA e_55 (.tmp 3)) ∧ (evA e (.tmp 7) = evA e_55 (.tmp 7)) ∧ (evA e (.tmp 13) = evA e_55 (.tmp 13)) ∧ m_54 = mem) ?_ ?_
                                      ·
                                        refine aw_text (by kernel_rfl) ?_
                                        refine al_ro' (ro_move s8_55) trivial rfl ?_
                                        refine al_ro' (ro_move (up_m rfl s13_55)) trivial rfl ?_
                                        refine al_ro' (ro_neq (up_m rfl up_h) up_h) trivial rfl ?_
                                        refine al_ro' (ro_move up_h) trivial rfl ?_
                                        refine al_case up_h (fun hb_57 hq_57 => ?_) (fun hb_57 hq_57 => ?_)
                                        · skip
                                          first
                                          | (cases hq_57; done) | ((first | replace hq_57 := bnt hq_57 | replace hq_57 := bnf hq_57 | replace hq_57 := bt hq_57 | replace hq_57 := bf hq_57 | replace hq_57 := bt' hq_57 | replace hq_57 := bf' hq_57 | skip); exfalso; omega) | (exact absurd (hs1.symm.trans hq_57) (by decide)) | (exact absurd (hs2.symm.trans hq_57) (by decide)) | (exact absurd (hsj.symm.trans hq_57) (by decide)) | (exact absurd (hsr.symm.trans hq_57) (by decide))
                                          | ((first | replace hq_57 := bnt hq_57 | replace hq_57 := bnf hq_57 | replace hq_57 := bt hq_57 | replace hq_57 := bf hq_57 | replace hq_57 := bt' hq_57 | replace hq_57 := bf' hq_57 | skip)
                                             refine al_skip' ⟨_, rfl, .inl hb_57⟩ rfl ?_
                                             refine al_skip' ⟨_, rfl, .inl (up_m rfl hb_57)⟩ rfl ?_
                                             refine al_skip' ⟨_, rfl, .inl (u2 rfl hb_57)⟩ rfl ?_
                                             refine al_skip' ⟨_, rfl, .inl (up_m rfl (u2 rfl hb_57))⟩ rfl ?_
                                             refine al_ro' (ro_pickT (u4 rfl hb_57) ev_c) trivial rfl ?_
                                             refine al_end (fun e_58 he_58 => ?_)
                                             have s2_58 := ef 2 he_58 (up_m rfl (u8 rfl s2_55))
                                             have s3_58 := ef 3 he_58 (up_m rfl (u8 rfl s3_55))
                                             have s7_58 := ef 7 he_58 (up_m rfl (u8 rfl s7_55))
                                             have s13_58 := ef 13 he_58 (up_m rfl (u8 rfl s13_55))
                                             have s111_58 := ef 111 he_58 up_h
                                             clear he_58
                                             refine then_n ⟨(s111_58).trans (by (first | rfl | (refine avb ?_; simp [hje, hsj]; done) | (refine avb ?_; simp [hje, hs2]; done) | (refine avb ?_; simp; omega))), (s2_58).trans (s2_55).symm, (s3_58).trans (s3_55).symm, (s7_58).trans (s7_55).symm, (s13_58).trans (s13_55).symm, rfl⟩)
                                        · skip
                                          first
                                          | (cases hq_57; done) | ((first | replace hq_57 := bnt hq_57 | replace hq_57 := bnf hq_57 | replace hq_57 := bt hq_57 | replace hq_57 := bf hq_57 | replace hq_57 := bt' hq_57 | replace hq_57 := bf' hq_57 | skip); exfalso; omega) | (exact absurd (hs1.symm.trans hq_57) (by decide)) | (exact absurd (hs2.symm.trans hq_57) (by decide)) | (exact absurd (hsj.symm.trans hq_57) (by decide)) | (exact absurd (hsr.symm.trans hq_57) (by decide))
                                          | ((first | replace hq_57 := bnt hq_57 | replace hq_57 := bnf hq_57 | replace hq_57 := bt hq_57 | replace hq_57 := bf hq_57 | replace hq_57 := bt' hq_57 | replace hq_57 := bf' hq_57 | skip)
                                             refine al_ro' (ro_eq (ro_ld_ptr k42_ty24 rfl mo3_54 (u4 rfl s7_55) (by first | exact Nat.le_of_ble_eq_true rfl | omega | (simp only [lnS] <;> omega) | (simp <;> omega))) (by first | (simp only [packA_t, packA_f, iE, bE, setAt, cellsA, Value.cells, map_vc, map_vn, Nat.reduceAdd, qS] <;> rfl) | rfl)) ⟨_, rfl, hb_57⟩ rfl ?_
                                             refine al_ro' (ro_eq (ro_ld_ptr k42_ty24 rfl mo6_54 (up_m rfl (u4 rfl s14_55)) (by first | exact Nat.le_of_ble_eq_true rfl | omega | (simp only [lnS] <;> omega) | (simp <;> omega))) (by first | (simp only [packA_t, packA_f, iE, bE, setAt, cellsA, Value.cells, map_vc, map_vn, Nat.reduceAdd, qS] <;> rfl) | rfl)) ⟨_, rfl, (up_m rfl hb_57)⟩ rfl ?_
                                             first | refine al_ro' (ro_call (evL_cons (up_m rfl up_h) (evL_cons up_h evL_nil)) rfl (same_none _ _ (by omega) _) k42_hcf53) ⟨_, rfl, (u2 rfl hb_57)⟩ rfl ?_ | refine al_ro' (ro_call (evL_cons (up_m rfl up_h) (evL_cons up_h evL_nil)) rfl (rSame_ok _ _ _ _ (by omega) (by omega)) k42_hcf53) ⟨_, rfl, (u2 rfl hb_57)⟩ rfl ?_
                                             refine al_ro' (ro_not up_h) ⟨_, rfl, (up_m rfl (u2 rfl hb_57))⟩ rfl ?_
                                             refine al_ro' (ro_pickF (u4 rfl hb_57) up_h) trivial rfl ?_
                                             refine al_end (fun e_59 he_59 => ?_)
                                             have s2_59 := ef 2 he_59 (up_m rfl (u8 rfl s2_55))
                                             have s3_59 := ef 3 he_59 (up_m rfl (u8 rfl s3_55))
                                             have s7_59 := ef 7 he_59 (up_m rfl (u8 rfl s7_55))
                                             have s13_59 := ef 13 he_59 (up_m rfl (u8 rfl s13_55))
                                             have s111_59 := ef 111 he_59 up_h
                                             clear he_59
                                             refine then_n ⟨(s111_59).trans (by (first | rfl | (refine avb ?_; simp [hje, hsj]; done) | (refine avb ?_; simp [hje, hs2]; done) | (refine avb ?_; simp; omega))), (s2_59).trans (s2_55).symm, (s3_59).trans (s3_55).symm, (s7_59).trans (s7_55).symm, (s13_59).trans (s13_55).symm, rfl⟩)
                                      · rintro e_56 _ ⟨s111_56, k2_56, k3_56, k7_56, k13_56, rfl⟩
                                        have s2_56 := k2_56.trans s2_55
                                        have s3_56 := k3_56.trans s3_55
                                        have s7_56 := k7_56.trans s7_55
                                        have s13_56 := k13_56.trans s13_55
                                        refine aw_case s111_56 (fun hq_60 => ?_) (fun hq_60 => ?_)
                                        · skip
                                          first
                                          | (cases hq_60; done) | ((first | replace hq_60 := bnt hq_60 | replace hq_60 := bnf hq_60 | replace hq_60 := bt hq_60 | replace hq_60 := bf hq_60 | replace hq_60 := bt' hq_60 | replace hq_60 := bf' hq_60 | skip); exfalso; omega) | (exact absurd (hs1.symm.trans hq_60) (by decide)) | (exact absurd (hs2.symm.trans hq_60) (by decide)) | (exact absurd (hsj.symm.trans hq_60) (by decide)) | (exact absurd (hsr.symm.trans hq_60) (by decide))
                                          | ((first | replace hq_60 := bnt hq_60 | replace hq_60 := bnf hq_60 | replace hq_60 := bt hq_60 | replace hq_60 := bf hq_60 | replace hq_60 := bt' hq_60 | replace hq_60 := bf' hq_60 | skip)
                                             refine aw_seq ?_
                                             refine aw_text (by kernel_rfl) ?_
                                             refine al_ro' (ro_assign ev_c) trivial rfl ?_
                                             refine al_end (fun e_61 he_61 => ?_)
                                             have s4_61 := ef 4 he_61 up_h
                                             clear he_61 s111_56 s13_56 s2_56 s3_56 s7_56
                                             refine then_n ?_
                                             refine aw_ret ?_
                                             refine then_r ?_
                                             refine ret1 (.inr rfl) (by kernel_rfl) (resV_tmp s4_61) (.ro _ rfl) ?_
                                             clear s4_61 mo6_54 mo5_54 mo4_54 mo3_54 mo2_54 mo1_54 mo0_54 ml_54
                                             (first | rfl | exact congrArg (fun b => bA b) hs1 | exact congrArg (fun b => bA b) hs2 | (simp [hs1, hs2]; done) | (rw [hja] at *; exfalso; omega) | (exfalso; omega)))
                                        · skip
                                          first
                                          | (cases hq_60; done) | ((first | replace hq_60 := bnt hq_60 | replace hq_60 := bnf hq_60 | replace hq_60 := bt hq_60 | replace hq_60 := bf hq_60 | replace hq_60 := bt' hq_60 | replace hq_60 := bf' hq_60 | skip); exfalso; omega) | (exact absurd (hs1.symm.trans hq_60) (by decide)) | (exact absurd (hs2.symm.trans hq_60) (by decide)) | (exact absurd (hsj.symm.trans hq_60) (by decide)) | (exact absurd (hsr.symm.trans hq_60) (by decide))
                                          | ((first | replace hq_60 := bnt hq_60 | replace hq_60 := bnf hq_60 | replace hq_60 := bt hq_60 | replace hq_60 := bf hq_60 | replace hq_60 := bt' hq_60 | replace hq_60 := bf' hq_60 | skip)
                                             refine aw_skip ?_
                                             refine then_n ?_
                                             refine aw_seq ?_
                                             refine aw_seq ?_
                                             refine aw_text (by kernel_rfl) ?_
                                             refine al_ro' (ro_move s13_56) trivial rfl ?_
                                             refine al_ro' (ro_neq up_h ev_c) trivial rfl ?_
                                             refine al_end (fun e_62 he_62 => ?_)
                                             have s2_62 := ef 2 he_62 (u2 rfl s2_56)
                                             have s3_62 := ef 3 he_62 (u2 rfl s3_56)
                                             have s7_62 := ef 7 he_62 (u2 rfl s7_56)
                                             have s113_62 := ef 113 he_62 up_h
                                             clear he_62 s111_56 s13_56 s2_56 s3_56 s7_56
                                             refine then_n ?_
                                             refine aw_case s113_62 (fun hq_63 => ?_) (fun hq_63 => ?_)
                                             · skip
                                               first
                                               | (cases hq_63; done) | ((first | replace hq_63 := bnt hq_63 | replace hq_63 := bnf hq_63 | replace hq_63 := bt hq_63 | replace hq_63 := bf hq_63 | replace hq_63 := bt' hq_63 | replace hq_63 := bf' hq_63 | skip); exfalso; omega) | (exact absurd (hs1.symm.trans hq_63) (by decide)) | (exact absurd (hs2.symm.trans hq_63) (by decide)) | (exact absurd (hsj.symm.trans hq_63) (by decide)) | (exact absurd (hsr.symm.trans hq_63) (by decide))
                                               | ((first | replace hq_63 := bnt hq_63 | replace hq_63 := bnf hq_63 | replace hq_63 := bt hq_63 | replace hq_63 := bf hq_63 | replace hq_63 := bt' hq_63 | replace hq_63 := bf' hq_63 | skip)
                                                  refine aw_seq ?_
                                                  refine aw_text (by kernel_rfl) ?_
                                                  refine al_ro' (ro_assign ev_c) trivial rfl ?_
                                                  refine al_end (fun e_64 he_64 => ?_)
                                                  have s4_64 := ef 4 he_64 up_h
                                                  clear he_64 s113_62 s2_62 s3_62 s7_62
                                                  refine then_n ?_
                                                  refine aw_ret ?_
                                                  refine then_r ?_
                                                  refine ret1 (.inr rfl) (by kernel_rfl) (resV_tmp s4_64) (.ro _ rfl) ?_
                                                  clear s4_64 mo6_54 mo5_54 mo4_54 mo3_54 mo2_54 mo1_54 mo0_54 ml_54
                                                  (first | rfl | exact congrArg (fun b => bA b) hs1 | exact congrArg (fun b => bA b) hs2 | (simp [hs1, hs2]; done) | (rw [hja] at *; exfalso; omega) | (exfalso; omega)))
                                             · skip
                                               first
                                               | (cases hq_63; done) | ((first | replace hq_63 := bnt hq_63 | replace hq_63 := bnf hq_63 | replace hq_63 := bt hq_63 | replace hq_63 := bf hq_63 | replace hq_63 := bt' hq_63 | replace hq_63 := bf' hq_63 | skip); exfalso; omega) | (exact absurd (hs1.symm.trans hq_63) (by decide)) | (exact absurd (hs2.symm.trans hq_63) (by decide)) | (exact absurd (hsj.symm.trans hq_63) (by decide)) | (exact absurd (hsr.symm.trans hq_63) (by decide))
                                               | ((first | replace hq_63 := bnt hq_63 | replace hq_63 := bnf hq_63 | replace hq_63 := bt hq_63 | replace hq_63 := bf hq_63 | replace hq_63 := bt' hq_63 | replace hq_63 := bf' hq_63 | skip)
                                                  (have hj0 : jnE na ps nb qs = 0 := (by omega); have hle : (ps.length : Int) + qs.length ≤ 12 := (by have := rjE_two ps qs; omega); have hRb := chk_right hzb; have k1 := plW_len ps ps.length; have k2 := plW_len qs qs.length; have k3 := plW_len (ps ++ qs) (ps.length + qs.length))
                                                  refine aw_skip ?_
                                                  refine then_n ?_
                                                  refine aw_seq ?_
                                                  refine aw_text (by kernel_rfl) ?_
                                                  refine al_ro' (ro_eq (ro_ld_ptr k42_ty24 rfl mo0_54 s2_62 (by first | exact Nat.le_of_ble_eq_true rfl | omega | (simp only [lnS] <;> omega) | (simp <;> omega))) (by first | (simp only [packA_t, packA_f, iE, bE, setAt, cellsA, Value.cells, map_vc, map_vn, Nat.reduceAdd, qS] <;> rfl) | rfl)) trivial rfl ?_
                                                  first | refine al_ro' (ro_call (evL_cons up_h evL_nil) rfl (rCopy_ok na ps (by omega)) k42_hcf18) trivial rfl ?_ | refine al_ro' (ro_call (evL_cons up_h evL_nil) rfl (rCopy_ok nb qs (by omega)) k42_hcf18) trivial rfl ?_ | refine al_ro' (ro_call (evL_cons up_h evL_nil) rfl (rCopy_ok (rvN na ps) (rvQ na ps) (by omega)) k42_hcf18) trivial rfl ?_ | refine al_ro' (ro_call (evL_cons up_h evL_nil) rfl (rCopy_ok (jnN na ps nb qs) (jnP na ps nb qs) (by omega)) k42_hcf18) trivial rfl ?_
                                                  first | refine al_ro' (ro_call (evL_cons up_h evL_nil) rfl (places1_ok hz (by omega) (by omega)) k42_hcf34) trivial rfl ?_ | refine al_ro' (ro_call (evL_cons up_h evL_nil) rfl (places1_ok hzb (by omega) (by omega)) k42_hcf34) trivial rfl ?_ | refine al_ro' (ro_call (evL_cons up_h evL_nil) rfl (places2_ok hj0 (by omega) (by omega)) k42_hcf34) trivial rfl ?_
                                                  refine al_ro' (ro_move up_h) trivial rfl ?_
                                                  refine al_ro' (ro_extract up_h rfl) trivial rfl ?_
                                                  refine al_ro' (ro_extract (up_m rfl up_h) rfl) trivial rfl ?_
                                                  refine al_ro' (ro_assign (up_m rfl up_h)) trivial rfl ?_
                                                  refine al_ro' (ro_assign (up_m rfl up_h)) trivial rfl ?_
                                                  refine al_end (fun e_65 he_65 => ?_)
                                                  have s2_65 := ef 2 he_65 (u8 rfl s2_62)
                                                  have s3_65 := ef 3 he_65 (u8 rfl s3_62)
                                                  have s7_65 := ef 7 he_65 (u8 rfl s7_62)
                                                  have s15_65 := ef 15 he_65 (up_m rfl up_h)
                                                  have s16_65 := ef 16 he_65 up_h
                                                  clear he_65 s113_62 s2_62 s3_62 s7_62
                                                  refine then_n ?_
                                                  refine aw_seq ?_
                                                  refine aw_text (by kernel_rfl) ?_
                                                  refine al_ro' (ro_eq (ro_ld_ptr k42_ty24 rfl mo1_54 s3_65 (by first | exact Nat.le_of_ble_eq_true rfl | omega | (simp only [lnS] <;> omega) | (simp <;> omega))) (by first | (simp only [packA_t, packA_f, iE, bE, setAt, cellsA, Value.cells, map_vc, map_vn, Nat.reduceAdd, qS] <;> rfl) | rfl)) trivial rfl ?_
                                                  first | refine al_ro' (ro_call (evL_cons up_h evL_nil) rfl (rCopy_ok na ps (by omega)) k42_hcf18) trivial rfl ?_ | refine al_ro' (ro_call (evL_cons up_h evL_nil) rfl (rCopy_ok nb qs (by omega)) k42_hcf18) trivial rfl ?_ | refine al_ro' (ro_call (evL_cons up_h evL_nil) rfl (rCopy_ok (rvN na ps) (rvQ na ps) (by omega)) k42_hcf18) trivial rfl ?_ | refine al_ro' (ro_call (evL_cons up_h evL_nil) rfl (rCopy_ok (jnN na ps nb qs) (jnP na ps nb qs) (by omega)) k42_hcf18) trivial rfl ?_
                                                  first | refine al_ro' (ro_call (evL_cons up_h evL_nil) rfl (places1_ok hz (by omega) (by omega)) k42_hcf34) trivial rfl ?_ | refine al_ro' (ro_call (evL_cons up_h evL_nil) rfl (places1_ok hzb (by omega) (by omega)) k42_hcf34) trivial rfl ?_ | refine al_ro' (ro_call (evL_cons up_h evL_nil) rfl (places2_ok hj0 (by omega) (by omega)) k42_hcf34) trivial rfl ?_
                                                  refine al_ro' (ro_move up_h) trivial rfl ?_
                                                  refine al_ro' (ro_extract up_h rfl) trivial rfl ?_
                                                  refine al_ro' (ro_extract (up_m rfl up_h) rfl) trivial rfl ?_
                                                  refine al_ro' (ro_assign (up_m rfl up_h)) trivial rfl ?_
                                                  refine al_ro' (ro_assign (up_m rfl up_h)) trivial rfl ?_
                                                  refine al_end (fun e_66 he_66 => ?_)
                                                  have s2_66 := ef 2 he_66 (u8 rfl s2_65)
                                                  have s3_66 := ef 3 he_66 (u8 rfl s3_65)
                                                  have s7_66 := ef 7 he_66 (u8 rfl s7_65)
                                                  have s15_66 := ef 15 he_66 (u8 rfl s15_65)
                                                  have s16_66 := ef 16 he_66 (u8 rfl s16_65)
                                                  have s17_66 := ef 17 he_66 (up_m rfl up_h)
                                                  have s18_66 := ef 18 he_66 up_h
                                                  clear he_66 s15_65 s16_65 s2_65 s3_65 s7_65
                                                  refine then_n ?_
                                                  refine aw_seq ?_
                                                  refine aw_text (by kernel_rfl) ?_
                                                  refine al_ro' (ro_eq (ro_ld_ptr k42_ty24 rfl mo3_54 s7_66 (by first | exact Nat.le_of_ble_eq_true rfl | omega | (simp only [lnS] <;> omega) | (simp <;> omega))) (by first | (simp only [packA_t, packA_f, iE, bE, setAt, cellsA, Value.cells, map_vc, map_vn, Nat.reduceAdd, qS] <;> rfl) | rfl)) trivial rfl ?_
                                                  first | refine al_ro' (ro_call (evL_cons up_h evL_nil) rfl (rCopy_ok na ps (by omega)) k42_hcf18) trivial rfl ?_ | refine al_ro' (ro_call (evL_cons up_h evL_nil) rfl (rCopy_ok nb qs (by omega)) k42_hcf18) trivial rfl ?_ | refine al_ro' (ro_call (evL_cons up_h evL_nil) rfl (rCopy_ok (rvN na ps) (rvQ na ps) (by omega)) k42_hcf18) trivial rfl ?_ | refine al_ro' (ro_call (evL_cons up_h evL_nil) rfl (rCopy_ok (jnN na ps nb qs) (jnP na ps nb qs) (by omega)) k42_hcf18) trivial rfl ?_
                                                  first | refine al_ro' (ro_call (evL_cons up_h evL_nil) rfl (places1_ok hz (by omega) (by omega)) k42_hcf34) trivial rfl ?_ | refine al_ro' (ro_call (evL_cons up_h evL_nil) rfl (places1_ok hzb (by omega) (by omega)) k42_hcf34) trivial rfl ?_ | refine al_ro' (ro_call (evL_cons up_h evL_nil) rfl (places2_ok hj0 (by omega) (by omega)) k42_hcf34) trivial rfl ?_
                                                  refine al_ro' (ro_move up_h) trivial rfl ?_
                                                  refine al_ro' (ro_extract up_h rfl) trivial rfl ?_
                                                  refine al_ro' (ro_extract (up_m rfl up_h) rfl) trivial rfl ?_
                                                  refine al_ro' (ro_assign (up_m rfl up_h)) trivial rfl ?_
                                                  refine al_ro' (ro_assign (up_m rfl up_h)) trivial rfl ?_
                                                  refine al_end (fun e_67 he_67 => ?_)
                                                  have s2_67 := ef 2 he_67 (u8 rfl s2_66)
                                                  have s3_67 := ef 3 he_67 (u8 rfl s3_66)
                                                  have s15_67 := ef 15 he_67 (u8 rfl s15_66)
                                                  have s16_67 := ef 16 he_67 (u8 rfl s16_66)
                                                  have s17_67 := ef 17 he_67 (u8 rfl s17_66)
                                                  have s18_67 := ef 18 he_67 (u8 rfl s18_66)
                                                  have s19_67 := ef 19 he_67 (up_m rfl up_h)
                                                  have s20_67 := ef 20 he_67 up_h
                                                  clear he_67 s15_66 s16_66 s17_66 s18_66 s2_66 s3_66 s7_66
                                                  refine then_n ?_
                                                  refine aw_seq ?_
                                                  refine aw_seq ?_
                                                  refine aw_cut (fun e mem => (evA e (.tmp 170) = .v (.bool false)) ∧ (evA e (.tmp 15) = evA e_67 (.tmp 15)) ∧ (evA e (.tmp 17) = evA e_67 (.tmp 17)) ∧ (evA e (.tmp 19) = evA e_67 (.tmp 19)) ∧ m_54 = mem) ?_ ?_
                                                  ·
                                                    refine aw_text (by kernel_rfl) ?_
                                                    refine al_ro' (ro_move s16_67) trivial rfl ?_
                                                    refine al_ro' (ro_neq up_h ev_c) trivial rfl ?_
                                                    refine al_ro' (ro_move up_h) trivial rfl ?_
                                                    refine al_case up_h (fun hb_69 hq_69 => ?_) (fun hb_69 hq_69 => ?_)
                                                    · skip
                                                      first
                                                      | (cases hq_69; done) | ((first | replace hq_69 := bnt hq_69 | replace hq_69 := bnf hq_69 | replace hq_69 := bt hq_69 | replace hq_69 := bf hq_69 | replace hq_69 := bt' hq_69 | replace hq_69 := bf' hq_69 | skip); exfalso; omega) | (exact absurd (hs1.symm.trans hq_69) (by decide)) | (exact absurd (hs2.symm.trans hq_69) (by decide)) | (exact absurd (hsj.symm.trans hq_69) (by decide)) | (exact absurd (hsr.symm.trans hq_69) (by decide))
                                                      | ((first | replace hq_69 := bnt hq_69 | replace hq_69 := bnf hq_69 | replace hq_69 := bt hq_69 | replace hq_69 := bf hq_69 | replace hq_69 := bt' hq_69 | replace hq_69 := bf' hq_69 | skip)
                                                         refine al_skip' ⟨_, rfl, .inl hb_69⟩ rfl ?_
                                                         refine al_skip' ⟨_, rfl, .inl (up_m rfl hb_69)⟩ rfl ?_
                                                         refine al_ro' (ro_pickT (u2 rfl hb_69) ev_c) trivial rfl ?_
                                                         refine al_ro' (ro_move up_h) trivial rfl ?_
                                                         refine al_skip' ⟨_, rfl, .inl up_h⟩ rfl ?_
                                                         refine al_skip' ⟨_, rfl, .inl (up_m rfl up_h)⟩ rfl ?_
                                                         refine al_ro' (ro_pickT (u2 rfl up_h) ev_c) trivial rfl ?_
                                                         refine al_ro' (ro_move up_h) trivial rfl ?_
                                                         refine al_skip' ⟨_, rfl, .inl up_h⟩ rfl ?_
                                                         refine al_skip' ⟨_, rfl, .inl (up_m rfl up_h)⟩ rfl ?_
                                                         refine al_skip' ⟨_, rfl, .inl (u2 rfl up_h)⟩ rfl ?_
                                                         refine al_skip' ⟨_, rfl, .inl (up_m rfl (u2 rfl up_h))⟩ rfl ?_
                                                         refine al_skip' ⟨_, rfl, .inl (u4 rfl up_h)⟩ rfl ?_
                                                         refine al_skip' ⟨_, rfl, .inl (up_m rfl (u4 rfl up_h))⟩ rfl ?_
                                                         refine al_skip' ⟨_, rfl, .inl (u2 rfl (u4 rfl up_h))⟩ rfl ?_
                                                         refine al_ro' (ro_pickT (up_m rfl (u2 rfl (u4 rfl up_h))) ev_c) trivial rfl ?_
                                                         refine al_ro' (ro_move up_h) trivial rfl ?_
                                                         refine al_skip' ⟨_, rfl, .inl up_h⟩ rfl ?_
                                                         refine al_skip' ⟨_, rfl, .inl (up_m rfl up_h)⟩ rfl ?_
                                                         refine al_skip' ⟨_, rfl, .inl (u2 rfl up_h)⟩ rfl ?_
                                                         refine al_skip' ⟨_, rfl, .inl (up_m rfl (u2 rfl up_h))⟩ rfl ?_
                                                         refine al_skip' ⟨_, rfl, .inl (u4 rfl up_h)⟩ rfl ?_
                                                         refine al_skip' ⟨_, rfl, .inl (up_m rfl (u4 rfl up_h))⟩ rfl ?_
                                                         refine al_skip' ⟨_, rfl, .inl (u2 rfl (u4 rfl up_h))⟩ rfl ?_
                                                         refine al_ro' (ro_pickT (up_m rfl (u2 rfl (u4 rfl up_h))) ev_c) trivial rfl ?_
                                                         refine al_ro' (ro_move up_h) trivial rfl ?_
                                                         refine al_skip' ⟨_, rfl, .inl up_h⟩ rfl ?_
                                                         refine al_skip' ⟨_, rfl, .inl (up_m rfl up_h)⟩ rfl ?_
                                                         refine al_skip' ⟨_, rfl, .inl (u2 rfl up_h)⟩ rfl ?_
                                                         refine al_skip' ⟨_, rfl, .inl (up_m rfl (u2 rfl up_h))⟩ rfl ?_
                                                         refine al_skip' ⟨_, rfl, .inl (u4 rfl up_h)⟩ rfl ?_
                                                         refine al_skip' ⟨_, rfl, .inl (up_m rfl (u4 rfl up_h))⟩ rfl ?_
                                                         refine al_skip' ⟨_, rfl, .inl (u2 rfl (u4 rfl up_h))⟩ rfl ?_
                                                         refine al_skip' ⟨_, rfl, .inl (up_m rfl (u2 rfl (u4 rfl up_h)))⟩ rfl ?_
                                                         refine al_skip' ⟨_, rfl, .inl (u8 rfl up_h)⟩ rfl ?_
                                                         refine al_ro' (ro_pickT (up_m rfl (u8 rfl up_h)) ev_c) trivial rfl ?_
                                                         refine al_end (fun e_70 he_70 => ?_)
                                                         have s15_70 := ef 15 he_70 (up_m rfl (u2 rfl (u4 rfl (u16 rfl (u16 rfl s15_67)))))
                                                         have s17_70 := ef 17 he_70 (up_m rfl (u2 rfl (u4 rfl (u16 rfl (u16 rfl s17_67)))))
                                                         have s19_70 := ef 19 he_70 (up_m rfl (u2 rfl (u4 rfl (u16 rfl (u16 rfl s19_67)))))
                                                         have s170_70 := ef 170 he_70 up_h
                                                         clear he_70
                                                         refine then_n ⟨(s170_70).trans (by (first | rfl | (refine avb ?_; simp; omega))), (s15_70).trans (s15_67).symm, (s17_70).trans (s17_67).symm, (s19_70).trans (s19_67).symm, rfl⟩)
                                                    · skip
                                                      first
                                                      | (cases hq_69; done) | ((first | replace hq_69 := bnt hq_69 | replace hq_69 := bnf hq_69 | replace hq_69 := bt hq_69 | replace hq_69 := bf hq_69 | replace hq_69 := bt' hq_69 | replace hq_69 := bf' hq_69 | skip); exfalso; omega) | (exact absurd (hs1.symm.trans hq_69) (by decide)) | (exact absurd (hs2.symm.trans hq_69) (by decide)) | (exact absurd (hsj.symm.trans hq_69) (by decide)) | (exact absurd (hsr.symm.trans hq_69) (by decide))
                                                      | ((first | replace hq_69 := bnt hq_69 | replace hq_69 := bnf hq_69 | replace hq_69 := bt hq_69 | replace hq_69 := bf hq_69 | replace hq_69 := bt' hq_69 | replace hq_69 := bf' hq_69 | skip)
                                                         refine al_ro' (ro_move (up_m rfl (u2 rfl s18_67))) ⟨_, rfl, hb_69⟩ rfl ?_
                                                         refine al_ro' (ro_neq up_h ev_c) ⟨_, rfl, (up_m rfl hb_69)⟩ rfl ?_
                                                         refine al_ro' (ro_pickF (u2 rfl hb_69) up_h) trivial rfl ?_
                                                         refine al_ro' (ro_move up_h) trivial rfl ?_
                                                         refine al_case up_h (fun hb_71 hq_71 => ?_) (fun hb_71 hq_71 => ?_)
                                                         · skip
                                                           first
                                                           | (cases hq_71; done) | ((first | replace hq_71 := bnt hq_71 | replace hq_71 := bnf hq_71 | replace hq_71 := bt hq_71 | replace hq_71 := bf hq_71 | replace hq_71 := bt' hq_71 | replace hq_71 := bf' hq_71 | skip); exfalso; omega) | (exact absurd (hs1.symm.trans hq_71) (by decide)) | (exact absurd (hs2.symm.trans hq_71) (by decide)) | (exact absurd (hsj.symm.trans hq_71) (by decide)) | (exact absurd (hsr.symm.trans hq_71) (by decide))
                                                           | ((first | replace hq_71 := bnt hq_71 | replace hq_71 := bnf hq_71 | replace hq_71 := bt hq_71 | replace hq_71 := bf hq_71 | replace hq_71 := bt' hq_71 | replace hq_71 := bf' hq_71 | skip)
                                                              refine al_skip' ⟨_, rfl, .inl hb_71⟩ rfl ?_
                                                              refine al_skip' ⟨_, rfl, .inl (up_m rfl hb_71)⟩ rfl ?_
                                                              refine al_ro' (ro_pickT (u2 rfl hb_71) ev_c) trivial rfl ?_
                                                              refine al_ro' (ro_move up_h) trivial rfl ?_
                                                              refine al_skip' ⟨_, rfl, .inl up_h⟩ rfl ?_
                                                              refine al_skip' ⟨_, rfl, .inl (up_m rfl up_h)⟩ rfl ?_
                                                              refine al_skip' ⟨_, rfl, .inl (u2 rfl up_h)⟩ rfl ?_
                                                              refine al_skip' ⟨_, rfl, .inl (up_m rfl (u2 rfl up_h))⟩ rfl ?_
                                                              refine al_skip' ⟨_, rfl, .inl (u4 rfl up_h)⟩ rfl ?_
                                                              refine al_skip' ⟨_, rfl, .inl (up_m rfl (u4 rfl up_h))⟩ rfl ?_
                                                              refine al_skip' ⟨_, rfl, .inl (u2 rfl (u4 rfl up_h))⟩ rfl ?_
                                                              refine al_ro' (ro_pickT (up_m rfl (u2 rfl (u4 rfl up_h))) ev_c) trivial rfl ?_
                                                              refine al_ro' (ro_move up_h) trivial rfl ?_
                                                              refine al_skip' ⟨_, rfl, .inl up_h⟩ rfl ?_
                                                              refine al_skip' ⟨_, rfl, .inl (up_m rfl up_h)⟩ rfl ?_
                                                              refine al_skip' ⟨_, rfl, .inl (u2 rfl up_h)⟩ rfl ?_
                                                              refine al_skip' ⟨_, rfl, .inl (up_m rfl (u2 rfl up_h))⟩ rfl ?_
                                                              refine al_skip' ⟨_, rfl, .inl (u4 rfl up_h)⟩ rfl ?_
                                                              refine al_skip' ⟨_, rfl, .inl (up_m rfl (u4 rfl up_h))⟩ rfl ?_
                                                              refine al_skip' ⟨_, rfl, .inl (u2 rfl (u4 rfl up_h))⟩ rfl ?_
                                                              refine al_ro' (ro_pickT (up_m rfl (u2 rfl (u4 rfl up_h))) ev_c) trivial rfl ?_
                                                              refine al_ro' (ro_move up_h) trivial rfl ?_
                                                              refine al_skip' ⟨_, rfl, .inl up_h⟩ rfl ?_
                                                              refine al_skip' ⟨_, rfl, .inl (up_m rfl up_h)⟩ rfl ?_
                                                              refine al_skip' ⟨_, rfl, .inl (u2 rfl up_h)⟩ rfl ?_
                                                              refine al_skip' ⟨_, rfl, .inl (up_m rfl (u2 rfl up_h))⟩ rfl ?_
                                                              refine al_skip' ⟨_, rfl, .inl (u4 rfl up_h)⟩ rfl ?_
                                                              refine al_skip' ⟨_, rfl, .inl (up_m rfl (u4 rfl up_h))⟩ rfl ?_
                                                              refine al_skip' ⟨_, rfl, .inl (u2 rfl (u4 rfl up_h))⟩ rfl ?_
                                                              refine al_skip' ⟨_, rfl, .inl (up_m rfl (u2 rfl (u4 rfl up_h)))⟩ rfl ?_
                                                              refine al_skip' ⟨_, rfl, .inl (u8 rfl up_h)⟩ rfl ?_
                                                              refine al_ro' (ro_pickT (up_m rfl (u8 rfl up_h)) ev_c) trivial rfl ?_
                                                              refine al_end (fun e_72 he_72 => ?_)
                                                              have s15_72 := ef 15 he_72 (up_m rfl (u2 rfl (u4 rfl (u16 rfl (u16 rfl s15_67)))))
                                                              have s17_72 := ef 17 he_72 (up_m rfl (u2 rfl (u4 rfl (u16 rfl (u16 rfl s17_67)))))
                                                              have s19_72 := ef 19 he_72 (up_m rfl (u2 rfl (u4 rfl (u16 rfl (u16 rfl s19_67)))))
                                                              have s170_72 := ef 170 he_72 up_h
                                                              clear he_72
                                                              refine then_n ⟨(s170_72).trans (by (first | rfl | (refine avb ?_; simp; omega))), (s15_72).trans (s15_67).symm, (s17_72).trans (s17_67).symm, (s19_72).trans (s19_67).symm, rfl⟩)
                                                         · skip
                                                           first
                                                           | (cases hq_71; done) | ((first | replace hq_71 := bnt hq_71 | replace hq_71 := bnf hq_71 | replace hq_71 := bt hq_71 | replace hq_71 := bf hq_71 | replace hq_71 := bt' hq_71 | replace hq_71 := bf' hq_71 | skip); exfalso; omega) | (exact absurd (hs1.symm.trans hq_71) (by decide)) | (exact absurd (hs2.symm.trans hq_71) (by decide)) | (exact absurd (hsj.symm.trans hq_71) (by decide)) | (exact absurd (hsr.symm.trans hq_71) (by decide))
                                                           | ((first | replace hq_71 := bnt hq_71 | replace hq_71 := bnf hq_71 | replace hq_71 := bt hq_71 | replace hq_71 := bf hq_71 | replace hq_71 := bt' hq_71 | replace hq_71 := bf' hq_71 | skip)
                                                              refine al_ro' (ro_move (up_m rfl (u2 rfl (u4 rfl s20_67)))) ⟨_, rfl, hb_71⟩ rfl ?_
                                                              refine al_ro' (ro_neq up_h ev_c) ⟨_, rfl, (up_m rfl hb_71)⟩ rfl ?_
                                                              refine al_ro' (ro_pickF (u2 rfl hb_71) up_h) trivial rfl ?_
                                                              refine al_ro' (ro_move up_h) trivial rfl ?_
                                                              refine al_case up_h (fun hb_73 hq_73 => ?_) (fun hb_73 hq_73 => ?_)
                                                              · skip
                                                                first
                                                                | (cases hq_73; done) | ((first | replace hq_73 := bnt hq_73 | replace hq_73 := bnf hq_73 | replace hq_73 := bt hq_73 | replace hq_73 := bf hq_73 | replace hq_73 := bt' hq_73 | replace hq_73 := bf' hq_73 | skip); exfalso; omega) | (exact absurd (hs1.symm.trans hq_73) (by decide)) | (exact absurd (hs2.symm.trans hq_73) (by decide)) | (exact absurd (hsj.symm.trans hq_73) (by decide)) | (exact absurd (hsr.symm.trans hq_73) (by decide))
                                                                | ((first | replace hq_73 := bnt hq_73 | replace hq_73 := bnf hq_73 | replace hq_73 := bt hq_73 | replace hq_73 := bf hq_73 | replace hq_73 := bt' hq_73 | replace hq_73 := bf' hq_73 | skip)
                                                                   refine al_skip' ⟨_, rfl, .inl hb_73⟩ rfl ?_
                                                                   refine al_skip' ⟨_, rfl, .inl (up_m rfl hb_73)⟩ rfl ?_
                                                                   refine al_skip' ⟨_, rfl, .inl (u2 rfl hb_73)⟩ rfl ?_
                                                                   refine al_skip' ⟨_, rfl, .inl (up_m rfl (u2 rfl hb_73))⟩ rfl ?_
                                                                   refine al_skip' ⟨_, rfl, .inl (u4 rfl hb_73)⟩ rfl ?_
                                                                   refine al_skip' ⟨_, rfl, .inl (up_m rfl (u4 rfl hb_73))⟩ rfl ?_
                                                                   refine al_skip' ⟨_, rfl, .inl (u2 rfl (u4 rfl hb_73))⟩ rfl ?_
                                                                   refine al_ro' (ro_pickT (up_m rfl (u2 rfl (u4 rfl hb_73))) ev_c) trivial rfl ?_
                                                                   refine al_ro' (ro_move up_h) trivial rfl ?_
                                                                   refine al_skip' ⟨_, rfl, .inl up_h⟩ rfl ?_
                                                                   refine al_skip' ⟨_, rfl, .inl (up_m rfl up_h)⟩ rfl ?_
                                                                   refine al_skip' ⟨_, rfl, .inl (u2 rfl up_h)⟩ rfl ?_
                                                                   refine al_skip' ⟨_, rfl, .inl (up_m rfl (u2 rfl up_h))⟩ rfl ?_
                                                                   refine al_skip' ⟨_, rfl, .inl (u4 rfl up_h)⟩ rfl ?_
                                                                   refine al_skip' ⟨_, rfl, .inl (up_m rfl (u4 rfl up_h))⟩ rfl ?_
                                                                   refine al_skip' ⟨_, rfl, .inl (u2 rfl (u4 rfl up_h))⟩ rfl ?_
                                                                   refine al_ro' (ro_pickT (up_m rfl (u2 rfl (u4 rfl up_h))) ev_c) trivial rfl ?_
                                                                   refine al_ro' (ro_move up_h) trivial rfl ?_
                                                                   refine al_skip' ⟨_, rfl, .inl up_h⟩ rfl ?_
                                                                   refine al_skip' ⟨_, rfl, .inl (up_m rfl up_h)⟩ rfl ?_
                                                                   refine al_skip' ⟨_, rfl, .inl (u2 rfl up_h)⟩ rfl ?_
                                                                   refine al_skip' ⟨_, rfl, .inl (up_m rfl (u2 rfl up_h))⟩ rfl ?_
                                                                   refine al_skip' ⟨_, rfl, .inl (u4 rfl up_h)⟩ rfl ?_
                                                                   refine al_skip' ⟨_, rfl, .inl (up_m rfl (u4 rfl up_h))⟩ rfl ?_
                                                                   refine al_skip' ⟨_, rfl, .inl (u2 rfl (u4 rfl up_h))⟩ rfl ?_
                                                                   refine al_skip' ⟨_, rfl, .inl (up_m rfl (u2 rfl (u4 rfl up_h)))⟩ rfl ?_
                                                                   refine al_skip' ⟨_, rfl, .inl (u8 rfl up_h)⟩ rfl ?_
                                                                   refine al_ro' (ro_pickT (up_m rfl (u8 rfl up_h)) ev_c) trivial rfl ?_
                                                                   refine al_end (fun e_74 he_74 => ?_)
                                                                   have s15_74 := ef 15 he_74 (up_m rfl (u2 rfl (u4 rfl (u16 rfl (u16 rfl s15_67)))))
                                                                   have s17_74 := ef 17 he_74 (up_m rfl (u2 rfl (u4 rfl (u16 rfl (u16 rfl s17_67)))))
                                                                   have s19_74 := ef 19 he_74 (up_m rfl (u2 rfl (u4 rfl (u16 rfl (u16 rfl s19_67)))))
                                                                   have s170_74 := ef 170 he_74 up_h
                                                                   clear he_74
                                                                   refine then_n ⟨(s170_74).trans (by (first | rfl | (refine avb ?_; simp; omega))), (s15_74).trans (s15_67).symm, (s17_74).trans (s17_67).symm, (s19_74).trans (s19_67).symm, rfl⟩)
                                                              · skip
                                                                first
                                                                | (cases hq_73; done) | ((first | replace hq_73 := bnt hq_73 | replace hq_73 := bnf hq_73 | replace hq_73 := bt hq_73 | replace hq_73 := bf hq_73 | replace hq_73 := bt' hq_73 | replace hq_73 := bf' hq_73 | skip); exfalso; omega) | (exact absurd (hs1.symm.trans hq_73) (by decide)) | (exact absurd (hs2.symm.trans hq_73) (by decide)) | (exact absurd (hsj.symm.trans hq_73) (by decide)) | (exact absurd (hsr.symm.trans hq_73) (by decide))
                                                                | ((first | replace hq_73 := bnt hq_73 | replace hq_73 := bnf hq_73 | replace hq_73 := bt hq_73 | replace hq_73 := bf hq_73 | replace hq_73 := bt' hq_73 | replace hq_73 := bf' hq_73 | skip)
                                                                   refine al_ro' (ro_move (up_m rfl (u2 rfl (u8 rfl s15_67)))) ⟨_, rfl, hb_73⟩ rfl ?_
                                                                   refine al_ro' (ro_eq (ro_len_row up_h rfl k42_sl30.1) (by first | (simp only [lnS] <;> rfl) | rfl)) ⟨_, rfl, (up_m rfl hb_73)⟩ rfl ?_
                                                                   refine al_ro' (ro_fld_ptr k42_fl24_1 rfl (up_m rfl (u4 rfl (u8 rfl s2_67)))) ⟨_, rfl, (u2 rfl hb_73)⟩ rfl ?_
                                                                   refine al_ro' (ro_eq (ro_ld_ptr k42_ty22 rfl mo0_54 up_h (by first | exact Nat.le_of_ble_eq_true rfl | omega | (simp only [lnS] <;> omega) | (simp <;> omega))) (by first | (simp only [packA_t, packA_f, iE, bE, setAt, cellsA, Value.cells, map_vc, map_vn, Nat.reduceAdd, qS] <;> rfl) | rfl)) ⟨_, rfl, (up_m rfl (u2 rfl hb_73))⟩ rfl ?_
                                                                   refine al_ro' (ro_eq (ro_len_row up_h rfl k42_sl22.1) (by first | (simp only [lnS] <;> rfl) | rfl)) ⟨_, rfl, (u4 rfl hb_73)⟩ rfl ?_
                                                                   first | (refine al_ro' (ro_add' up_h ev_c ?_) ⟨_, rfl, (up_m rfl (u4 rfl hb_73))⟩ rfl ?_; · (unfold In64; omega)) | refine al_ro' (ro_add up_h ev_c) ⟨_, rfl, (up_m rfl (u4 rfl hb_73))⟩ rfl ?_
                                                                   refine al_ro' (ro_neq (u4 rfl up_h) up_h) ⟨_, rfl, (u2 rfl (u4 rfl hb_73))⟩ rfl ?_
                                                                   refine al_ro' (ro_pickF (up_m rfl (u2 rfl (u4 rfl hb_73))) up_h) trivial rfl ?_
                                                                   refine al_ro' (ro_move up_h) trivial rfl ?_
                                                                   refine al_case up_h (fun hb_75 hq_75 => ?_) (fun hb_75 hq_75 => ?_)
                                                                   · skip
                                                                     first
                                                                     | (cases hq_75; done) | ((first | replace hq_75 := bnt hq_75 | replace hq_75 := bnf hq_75 | replace hq_75 := bt hq_75 | replace hq_75 := bf hq_75 | replace hq_75 := bt' hq_75 | replace hq_75 := bf' hq_75 | skip); exfalso; omega) | (exact absurd (hs1.symm.trans hq_75) (by decide)) | (exact absurd (hs2.symm.trans hq_75) (by decide)) | (exact absurd (hsj.symm.trans hq_75) (by decide)) | (exact absurd (hsr.symm.trans hq_75) (by decide))
                                                                     | ((first | replace hq_75 := bnt hq_75 | replace hq_75 := bnf hq_75 | replace hq_75 := bt hq_75 | replace hq_75 := bf hq_75 | replace hq_75 := bt' hq_75 | replace hq_75 := bf' hq_75 | skip)
                                                                        refine al_skip' ⟨_, rfl, .inl hb_75⟩ rfl ?_
                                                                        refine al_skip' ⟨_, rfl, .inl (up_m rfl hb_75)⟩ rfl ?_
                                                                        refine al_skip' ⟨_, rfl, .inl (u2 rfl hb_75)⟩ rfl ?_
                                                                        refine al_skip' ⟨_, rfl, .inl (up_m rfl (u2 rfl hb_75))⟩ rfl ?_
                                                                        refine al_skip' ⟨_, rfl, .inl (u4 rfl hb_75)⟩ rfl ?_
                                                                        refine al_skip' ⟨_, rfl, .inl (up_m rfl (u4 rfl hb_75))⟩ rfl ?_
                                                                        refine al_skip' ⟨_, rfl, .inl (u2 rfl (u4 rfl hb_75))⟩ rfl ?_
                                                                        refine al_ro' (ro_pickT (up_m rfl (u2 rfl (u4 rfl hb_75))) ev_c) trivial rfl ?_
                                                                        refine al_ro' (ro_move up_h) trivial rfl ?_
                                                                        refine al_skip' ⟨_, rfl, .inl up_h⟩ rfl ?_
                                                                        refine al_skip' ⟨_, rfl, .inl (up_m rfl up_h)⟩ rfl ?_
                                                                        refine al_skip' ⟨_, rfl, .inl (u2 rfl up_h)⟩ rfl ?_
                                                                        refine al_skip' ⟨_, rfl, .inl (up_m rfl (u2 rfl up_h))⟩ rfl ?_
                                                                        refine al_skip' ⟨_, rfl, .inl (u4 rfl up_h)⟩ rfl ?_
                                                                        refine al_skip' ⟨_, rfl, .inl (up_m rfl (u4 rfl up_h))⟩ rfl ?_
                                                                        refine al_skip' ⟨_, rfl, .inl (u2 rfl (u4 rfl up_h))⟩ rfl ?_
                                                                        refine al_skip' ⟨_, rfl, .inl (up_m rfl (u2 rfl (u4 rfl up_h)))⟩ rfl ?_
                                                                        refine al_skip' ⟨_, rfl, .inl (u8 rfl up_h)⟩ rfl ?_
                                                                        refine al_ro' (ro_pickT (up_m rfl (u8 rfl up_h)) ev_c) trivial rfl ?_
                                                                        refine al_end (fun e_76 he_76 => ?_)
                                                                        have s15_76 := ef 15 he_76 (up_m rfl (u2 rfl (u4 rfl (u16 rfl (u16 rfl s15_67)))))
                                                                        have s17_76 := ef 17 he_76 (up_m rfl (u2 rfl (u4 rfl (u16 rfl (u16 rfl s17_67)))))
                                                                        have s19_76 := ef 19 he_76 (up_m rfl (u2 rfl (u4 rfl (u16 rfl (u16 rfl s19_67)))))
                                                                        have s170_76 := ef 170 he_76 up_h
                                                                        clear he_76
                                                                        refine then_n ⟨(s170_76).trans (by (first | rfl | (refine avb ?_; simp; omega))), (s15_76).trans (s15_67).symm, (s17_76).trans (s17_67).symm, (s19_76).trans (s19_67).symm, rfl⟩)
                                                                   · skip
                                                                     first
                                                                     | (cases hq_75; done) | ((first | replace hq_75 := bnt hq_75 | replace hq_75 := bnf hq_75 | replace hq_75 := bt hq_75 | replace hq_75 := bf hq_75 | replace hq_75 := bt' hq_75 | replace hq_75 := bf' hq_75 | skip); exfalso; omega) | (exact absurd (hs1.symm.trans hq_75) (by decide)) | (exact absurd (hs2.symm.trans hq_75) (by decide)) | (exact absurd (hsj.symm.trans hq_75) (by decide)) | (exact absurd (hsr.symm.trans hq_75) (by decide))
                                                                     | ((first | replace hq_75 := bnt hq_75 | replace hq_75 := bnf hq_75 | replace hq_75 := bt hq_75 | replace hq_75 := bf hq_75 | replace hq_75 := bt' hq_75 | replace hq_75 := bf' hq_75 | skip)
                                                                        refine al_ro' (ro_move (u4 rfl (u16 rfl s17_67))) ⟨_, rfl, hb_75⟩ rfl ?_
                                                                        refine al_ro' (ro_eq (ro_len_row up_h rfl k42_sl30.1) (by first | (simp only [lnS] <;> rfl) | rfl)) ⟨_, rfl, (up_m rfl hb_75)⟩ rfl ?_
                                                                        refine al_ro' (ro_fld_ptr k42_fl24_1 rfl (u2 rfl (u4 rfl (u16 rfl s3_67)))) ⟨_, rfl, (u2 rfl hb_75)⟩ rfl ?_
                                                                        refine al_ro' (ro_eq (ro_ld_ptr k42_ty22 rfl mo1_54 up_h (by first | exact Nat.le_of_ble_eq_true rfl | omega | (simp only [lnS] <;> omega) | (simp <;> omega))) (by first | (simp only [packA_t, packA_f, iE, bE, setAt, cellsA, Value.cells, map_vc, map_vn, Nat.reduceAdd, qS] <;> rfl) | rfl)) ⟨_, rfl, (up_m rfl (u2 rfl hb_75))⟩ rfl ?_
                                                                        refine al_ro' (ro_eq (ro_len_row up_h rfl k42_sl22.1) (by first | (simp only [lnS] <;> rfl) | rfl)) ⟨_, rfl, (u4 rfl hb_75)⟩ rfl ?_
                                                                        first | (refine al_ro' (ro_add' up_h ev_c ?_) ⟨_, rfl, (up_m rfl (u4 rfl hb_75))⟩ rfl ?_; · (unfold In64; omega)) | refine al_ro' (ro_add up_h ev_c) ⟨_, rfl, (up_m rfl (u4 rfl hb_75))⟩ rfl ?_
                                                                        refine al_ro' (ro_neq (u4 rfl up_h) up_h) ⟨_, rfl, (u2 rfl (u4 rfl hb_75))⟩ rfl ?_
                                                                        refine al_ro' (ro_pickF (up_m rfl (u2 rfl (u4 rfl hb_75))) up_h) trivial rfl ?_
                                                                        refine al_ro' (ro_move up_h) trivial rfl ?_
                                                                        refine al_case up_h (fun hb_77 hq_77 => ?_) (fun hb_77 hq_77 => ?_)
                                                                        · skip
                                                                          first
                                                                          | (cases hq_77; done) | ((first | replace hq_77 := bnt hq_77 | replace hq_77 := bnf hq_77 | replace hq_77 := bt hq_77 | replace hq_77 := bf hq_77 | replace hq_77 := bt' hq_77 | replace hq_77 := bf' hq_77 | skip); exfalso; omega) | (exact absurd (hs1.symm.trans hq_77) (by decide)) | (exact absurd (hs2.symm.trans hq_77) (by decide)) | (exact absurd (hsj.symm.trans hq_77) (by decide)) | (exact absurd (hsr.symm.trans hq_77) (by decide))
                                                                          | ((first | replace hq_77 := bnt hq_77 | replace hq_77 := bnf hq_77 | replace hq_77 := bt hq_77 | replace hq_77 := bf hq_77 | replace hq_77 := bt' hq_77 | replace hq_77 := bf' hq_77 | skip)
                                                                             refine al_skip' ⟨_, rfl, .inl hb_77⟩ rfl ?_
                                                                             refine al_skip' ⟨_, rfl, .inl (up_m rfl hb_77)⟩ rfl ?_
                                                                             refine al_skip' ⟨_, rfl, .inl (u2 rfl hb_77)⟩ rfl ?_
                                                                             refine al_skip' ⟨_, rfl, .inl (up_m rfl (u2 rfl hb_77))⟩ rfl ?_
                                                                             refine al_skip' ⟨_, rfl, .inl (u4 rfl hb_77)⟩ rfl ?_
                                                                             refine al_skip' ⟨_, rfl, .inl (up_m rfl (u4 rfl hb_77))⟩ rfl ?_
                                                                             refine al_skip' ⟨_, rfl, .inl (u2 rfl (u4 rfl hb_77))⟩ rfl ?_
                                                                             refine al_skip' ⟨_, rfl, .inl (up_m rfl (u2 rfl (u4 rfl hb_77)))⟩ rfl ?_
                                                                             refine al_skip' ⟨_, rfl, .inl (u8 rfl hb_77)⟩ rfl ?_
                                                                             refine al_ro' (ro_pickT (up_m rfl (u8 rfl hb_77)) ev_c) trivial rfl ?_
                                                                             refine al_end (fun e_78 he_78 => ?_)
                                                                             have s15_78 := ef 15 he_78 (up_m rfl (u2 rfl (u4 rfl (u16 rfl (u16 rfl s15_67)))))
                                                                             have s17_78 := ef 17 he_78 (up_m rfl (u2 rfl (u4 rfl (u16 rfl (u16 rfl s17_67)))))
                                                                             have s19_78 := ef 19 he_78 (up_m rfl (u2 rfl (u4 rfl (u16 rfl (u16 rfl s19_67)))))
                                                                             have s170_78 := ef 170 he_78 up_h
                                                                             clear he_78
                                                                             refine then_n ⟨(s170_78).trans (by (first | rfl | (refine avb ?_; simp; omega))), (s15_78).trans (s15_67).symm, (s17_78).trans (s17_67).symm, (s19_78).trans (s19_67).symm, rfl⟩)
                                                                        · skip
                                                                          first
                                                                          | (cases hq_77; done) | ((first | replace hq_77 := bnt hq_77 | replace hq_77 := bnf hq_77 | replace hq_77 := bt hq_77 | replace hq_77 := bf hq_77 | replace hq_77 := bt' hq_77 | replace hq_77 := bf' hq_77 | skip); exfalso; omega) | (exact absurd (hs1.symm.trans hq_77) (by decide)) | (exact absurd (hs2.symm.trans hq_77) (by decide)) | (exact absurd (hsj.symm.trans hq_77) (by decide)) | (exact absurd (hsr.symm.trans hq_77) (by decide))
                                                                          | ((first | replace hq_77 := bnt hq_77 | replace hq_77 := bnf hq_77 | replace hq_77 := bt hq_77 | replace hq_77 := bf hq_77 | replace hq_77 := bt' hq_77 | replace hq_77 := bf' hq_77 | skip)
                                                                             refine al_ro' (ro_move (up_m rfl (u4 rfl (u8 rfl (u16 rfl s19_67))))) ⟨_, rfl, hb_77⟩ rfl ?_
                                                                             refine al_ro' (ro_eq (ro_len_row up_h rfl k42_sl30.1) (by first | (simp only [lnS] <;> rfl) | rfl)) ⟨_, rfl, (up_m rfl hb_77)⟩ rfl ?_
                                                                             refine al_ro' (ro_move (up_m rfl (u2 rfl (u4 rfl (u8 rfl (u16 rfl s15_67)))))) ⟨_, rfl, (u2 rfl hb_77)⟩ rfl ?_
                                                                             refine al_ro' (ro_eq (ro_len_row up_h rfl k42_sl30.1) (by first | (simp only [lnS] <;> rfl) | rfl)) ⟨_, rfl, (up_m rfl (u2 rfl hb_77))⟩ rfl ?_
                                                                             refine al_ro' (ro_fld_ptr k42_fl24_1 rfl (up_m rfl (u16 rfl (u16 rfl s3_67)))) ⟨_, rfl, (u4 rfl hb_77)⟩ rfl ?_
                                                                             refine al_ro' (ro_eq (ro_ld_ptr k42_ty22 rfl mo1_54 up_h (by first | exact Nat.le_of_ble_eq_true rfl | omega | (simp only [lnS] <;> omega) | (simp <;> omega))) (by first | (simp only [packA_t, packA_f, iE, bE, setAt, cellsA, Value.cells, map_vc, map_vn, Nat.reduceAdd, qS] <;> rfl) | rfl)) ⟨_, rfl, (up_m rfl (u4 rfl hb_77))⟩ rfl ?_
                                                                             refine al_ro' (ro_eq (ro_len_row up_h rfl k42_sl22.1) (by first | (simp only [lnS] <;> rfl) | rfl)) ⟨_, rfl, (u2 rfl (u4 rfl hb_77))⟩ rfl ?_
                                                                             first | (refine al_ro' (ro_add' (up_m rfl (u2 rfl up_h)) up_h ?_) ⟨_, rfl, (up_m rfl (u2 rfl (u4 rfl hb_77)))⟩ rfl ?_; · (unfold In64; omega)) | refine al_ro' (ro_add (up_m rfl (u2 rfl up_h)) up_h) ⟨_, rfl, (up_m rfl (u2 rfl (u4 rfl hb_77)))⟩ rfl ?_
                                                                             refine al_ro' (ro_neq (u2 rfl (u4 rfl up_h)) up_h) ⟨_, rfl, (u8 rfl hb_77)⟩ rfl ?_
                                                                             refine al_ro' (ro_pickF (up_m rfl (u8 rfl hb_77)) up_h) trivial rfl ?_
                                                                             refine al_end (fun e_79 he_79 => ?_)
                                                                             have s15_79 := ef 15 he_79 (up_m rfl (u2 rfl (u4 rfl (u16 rfl (u16 rfl s15_67)))))
                                                                             have s17_79 := ef 17 he_79 (up_m rfl (u2 rfl (u4 rfl (u16 rfl (u16 rfl s17_67)))))
                                                                             have s19_79 := ef 19 he_79 (up_m rfl (u2 rfl (u4 rfl (u16 rfl (u16 rfl s19_67)))))
                                                                             have s170_79 := ef 170 he_79 up_h
                                                                             clear he_79
                                                                             refine then_n ⟨(s170_79).trans (by (first | rfl | (refine avb ?_; simp; omega))), (s15_79).trans (s15_67).symm, (s17_79).trans (s17_67).symm, (s19_79).trans (s19_67).symm, rfl⟩)))))
                                                  · rintro e_68 _ ⟨s170_68, k15_68, k17_68, k19_68, rfl⟩
                                                    have s15_68 := k15_68.trans s15_67
                                                    have s17_68 := k17_68.trans s17_67
                                                    have s19_68 := k19_68.trans s19_67
                                                    refine aw_case s170_68 (fun hq_80 => ?_) (fun hq_80 => ?_)
                                                    · skip
                                                      first
                                                      | (cases hq_80; done) | ((first | replace hq_80 := bnt hq_80 | replace hq_80 := bnf hq_80 | replace hq_80 := bt hq_80 | replace hq_80 := bf hq_80 | replace hq_80 := bt' hq_80 | replace hq_80 := bf' hq_80 | skip); exfalso; omega) | (exact absurd (hs1.symm.trans hq_80) (by decide)) | (exact absurd (hs2.symm.trans hq_80) (by decide)) | (exact absurd (hsj.symm.trans hq_80) (by decide)) | (exact absurd (hsr.symm.trans hq_80) (by decide))
                                                      | ((first | replace hq_80 := bnt hq_80 | replace hq_80 := bnf hq_80 | replace hq_80 := bt hq_80 | replace hq_80 := bf hq_80 | replace hq_80 := bt' hq_80 | replace hq_80 := bf' hq_80 | skip)
                                                         refine aw_seq ?_
                                                         refine aw_text (by kernel_rfl) ?_
                                                         refine al_ro' (ro_assign ev_c) trivial rfl ?_
                                                         refine al_end (fun e_81 he_81 => ?_)
                                                         have s4_81 := ef 4 he_81 up_h
                                                         clear he_81 s15_68 s170_68 s17_68 s19_68
                                                         refine then_n ?_
                                                         refine aw_ret ?_
                                                         refine then_r ?_
                                                         refine ret1 (.inr rfl) (by kernel_rfl) (resV_tmp s4_81) (.ro _ rfl) ?_
                                                         clear s4_81 mo6_54 mo5_54 mo4_54 mo3_54 mo2_54 mo1_54 mo0_54 ml_54
                                                         (first | rfl | exact congrArg (fun b => bA b) hs1 | exact congrArg (fun b => bA b) hs2 | (simp [hs1, hs2]; done) | (rw [hja] at *; exfalso; omega) | (exfalso; omega)))
                                                    · skip
                                                      first
                                                      | (cases hq_80; done) | ((first | replace hq_80 := bnt hq_80 | replace hq_80 := bnf hq_80 | replace hq_80 := bt hq_80 | replace hq_80 := bf hq_80 | replace hq_80 := bt' hq_80 | replace hq_80 := bf' hq_80 | skip); exfalso; omega) | (exact absurd (hs1.symm.trans hq_80) (by decide)) | (exact absurd (hs2.symm.trans hq_80) (by decide)) | (exact absurd (hsj.symm.trans hq_80) (by decide)) | (exact absurd (hsr.symm.trans hq_80) (by decide))
                                                      | ((first | replace hq_80 := bnt hq_80 | replace hq_80 := bnf hq_80 | replace hq_80 := bt hq_80 | replace hq_80 := bf hq_80 | replace hq_80 := bt' hq_80 | replace hq_80 := bf' hq_80 | skip)
                                                         refine aw_skip ?_
                                                         refine then_n ?_
                                                         refine aw_seq ?_
                                                         refine aw_seq ?_
                                                         refine aw_text (by kernel_rfl) ?_
                                                         refine al_ro' (ro_assign ev_c) trivial rfl ?_
                                                         refine al_end (fun e_82 he_82 => ?_)
                                                         have s15_82 := ef 15 he_82 (up_m rfl s15_68)
                                                         have s17_82 := ef 17 he_82 (up_m rfl s17_68)
                                                         have s19_82 := ef 19 he_82 (up_m rfl s19_68)
                                                         have s21_82 := ef 21 he_82 up_h
                                                         clear he_82 s15_68 s170_68 s17_68 s19_68
                                                         refine then_n ?_
                                                         refine aw_block ?_
                                                         refine aw_loop (S := Int) (fun i e mem => (evA e (.tmp 21) = .v (.int .i64 i)) ∧ (evA e (.tmp 15) = evA e_82 (.tmp 15)) ∧ (evA e (.tmp 17) = evA e_82 (.tmp 17)) ∧ (evA e (.tmp 19) = evA e_82 (.tmp 19)) ∧ (mem[6]? = m_54[6]?) ∧ (mem[5]? = m_54[5]?) ∧ (mem[4]? = m_54[4]?) ∧ (mem[3]? = m_54[3]?) ∧ (mem[2]? = m_54[2]?) ∧ (mem[1]? = m_54[1]?) ∧ (mem[0]? = m_54[0]?) ∧ (mem.length = 7) ∧ ((0 ≤ i ∧ i ≤ (ps.length : Int) + qs.length + 1))) (fun i => ((ps.length : Int) + qs.length + 1 - i).toNat) _ ⟨s21_82, rfl, rfl, rfl, rfl, rfl, rfl, rfl, rfl, rfl, rfl, ml_54, ?_⟩ ?_
                                                         · (exact ⟨by omega, by omega⟩)
                                                         · rintro i e_83 m_83 ⟨s21_83, k15_83, k17_83, k19_83, mk6_83, mk5_83, mk4_83, mk3_83, mk2_83, mk1_83, mk0_83, ml_83, hinv⟩
                                                           have s15_83 := k15_83.trans s15_82
                                                           have s17_83 := k17_83.trans s17_82
                                                           have s19_83 := k19_83.trans s19_82
                                                           have mo6_83 := mk6_83.trans mo6_54
                                                           have mo5_83 := mk5_83.trans mo5_54
                                                           have mo4_83 := mk4_83.trans mo4_54
                                                           have mo3_83 := mk3_83.trans mo3_54
                                                           have mo2_83 := mk2_83.trans mo2_54
                                                           have mo1_83 := mk1_83.trans mo1_54
                                                           have mo0_83 := mk0_83.trans mo0_54
                                                           (have b1 := plW_bound hR.1 (n := ps.length) (by omega) (((plW ps ps.length).length : Int) - 1).toNat; have b2 := plW_bound hRb.1 (n := qs.length) (by omega) (i - ((plW ps ps.length).length : Int) + 1).toNat; have i1 := hinv.1; have i2 := hinv.2)
                                                           refine aw_seq ?_
                                                           refine aw_seq ?_
                                                           refine aw_text (by kernel_rfl) ?_
                                                           refine al_ro' (ro_move s21_83) trivial rfl ?_
                                                           refine al_ro' (ro_move (up_m rfl s19_83)) trivial rfl ?_
                                                           refine al_ro' (ro_eq (ro_len_row up_h rfl k42_sl30.1) (by first | (simp only [lnS] <;> rfl) | rfl)) trivial rfl ?_
                                                           refine al_ro' (ro_lss (u2 rfl up_h) up_h) trivial rfl ?_
                                                           refine al_end (fun e_84 he_84 => ?_)
                                                           have s15_84 := ef 15 he_84 (u4 rfl s15_83)
                                                           have s17_84 := ef 17 he_84 (u4 rfl s17_83)
                                                           have s19_84 := ef 19 he_84 (u4 rfl s19_83)
                                                           have s21_84 := ef 21 he_84 (u4 rfl s21_83)
                                                           have s174_84 := ef 174 he_84 up_h
                                                           clear he_84 s15_83 s17_83 s19_83 s21_83
                                                           refine then_n ?_
                                                           refine aw_case s174_84 (fun hq_85 => ?_) (fun hq_85 => ?_)
                                                           · skip
                                                             first
                                                             | (cases hq_85; done) | ((first | replace hq_85 := bnt hq_85 | replace hq_85 := bnf hq_85 | replace hq_85 := bt hq_85 | replace hq_85 := bf hq_85 | replace hq_85 := bt' hq_85 | replace hq_85 := bf' hq_85 | skip); exfalso; omega) | (exact absurd (hs1.symm.trans hq_85) (by decide)) | (exact absurd (hs2.symm.trans hq_85) (by decide)) | (exact absurd (hsj.symm.trans hq_85) (by decide)) | (exact absurd (hsr.symm.trans hq_85) (by decide))
                                                             | ((first | replace hq_85 := bnt hq_85 | replace hq_85 := bnf hq_85 | replace hq_85 := bt hq_85 | replace hq_85 := bf hq_85 | replace hq_85 := bt' hq_85 | replace hq_85 := bf' hq_85 | skip)
                                                                refine aw_skip ?_
                                                                refine then_n ?_
                                                                refine aw_seq ?_
                                                                refine aw_block ?_
                                                                refine aw_seq ?_
                                                                refine aw_cut (fun e mem => (evA e (.tmp 219) = .v (.bool false)) ∧ (evA e (.tmp 15) = evA e_84 (.tmp 15)) ∧ (evA e (.tmp 17) = evA e_84 (.tmp 17)) ∧ (evA e (.tmp 19) = evA e_84 (.tmp 19)) ∧ (evA e (.tmp 21) = evA e_84 (.tmp 21)) ∧ m_83 = mem) ?_ ?_
                                                                ·
                                                                  refine aw_draw 43 (by kernel_rfl) (by kernel_rfl) (by kernel_rfl) (by kernel_rfl) ?_
                                                                  refine ds_ro' (ro_move s21_84) trivial rfl ?_
                                                                  refine ds_ro' (ro_move (up_m rfl s15_84)) trivial rfl ?_
                                                                  refine ds_ro' (ro_eq (ro_len_row up_h rfl k42_sl30.1) (by first | (simp only [lnS] <;> rfl) | rfl)) trivial rfl ?_
                                                                  refine ds_ro' (ro_lss (u2 rfl up_h) up_h) trivial rfl ?_
                                                                  refine ds_ro' (ro_move up_h) trivial rfl ?_
                                                                  refine ds_case up_h (fun hb_87 hq_87 => ?_) (fun hb_87 hq_87 => ?_)
                                                                  · skip
                                                                    first
                                                                    | (cases hq_87; done) | ((first | replace hq_87 := bnt hq_87 | replace hq_87 := bnf hq_87 | replace hq_87 := bt hq_87 | replace hq_87 := bf hq_87 | replace hq_87 := bt' hq_87 | replace hq_87 := bf' hq_87 | skip); exfalso; omega) | (exact absurd (hs1.symm.trans hq_87) (by decide)) | (exact absurd (hs2.symm.trans hq_87) (by decide)) | (exact absurd (hsj.symm.trans hq_87) (by decide)) | (exact absurd (hsr.symm.trans hq_87) (by decide))
                                                                    | ((first | replace hq_87 := bnt hq_87 | replace hq_87 := bnf hq_87 | replace hq_87 := bt hq_87 | replace hq_87 := bf hq_87 | replace hq_87 := bt' hq_87 | replace hq_87 := bf' hq_87 | skip)
                                                                       refine ds_ro' (ro_move (up_m rfl (u4 rfl s19_84))) ⟨_, rfl, hb_87⟩ rfl ?_
                                                                       refine ds_ro' (ro_move (u2 rfl (u4 rfl s21_84))) ⟨_, rfl, (up_m rfl hb_87)⟩ rfl ?_
                                                                       refine ds_ro' (ro_eq (ro_ix k42_sl30 (up_m rfl up_h) up_h (by first | decide | omega | (simp <;> omega)) (by first | (refine idx_map ?_; first | omega | (simp only [lnS]; omega)) | (refine idx_mapI ?_; first | omega | (simp only [lnS]; omega)) | (refine idx_mapN ?_; first | omega | (simp only [lnS]; omega)) | rfl)) (by first | (simp only [packA_t, packA_f, iE, bE, setAt, cellsA, Value.cells, map_vc, map_vn, Nat.reduceAdd, qS] <;> rfl) | rfl)) ⟨_, rfl, (u2 rfl hb_87)⟩ rfl ?_
                                                                       refine ds_ro' (ro_eq (ro_ld_ref k42_ty3 rfl up_h (by first | exact Nat.le_of_ble_eq_true rfl | omega | (simp only [lnS] <;> omega) | (simp <;> omega))) (by first | (simp only [packA_t, packA_f, iE, bE, setAt, cellsA, Value.cells, map_vc, map_vn, Nat.reduceAdd, qS] <;> rfl) | rfl)) ⟨_, rfl, (up_m rfl (u2 rfl hb_87))⟩ rfl ?_
                                                                       refine ds_ro' (ro_move (up_m rfl (u8 rfl s15_84))) ⟨_, rfl, (u4 rfl hb_87)⟩ rfl ?_
                                                                       refine ds_ro' (ro_move (u2 rfl (u8 rfl s21_84))) ⟨_, rfl, (up_m rfl (u4 rfl hb_87))⟩ rfl ?_
                                                                       refine ds_ro' (ro_eq (ro_ix k42_sl30 (up_m rfl up_h) up_h (by first | decide | omega | (simp <;> omega)) (by first | (refine idx_map ?_; first | omega | (simp only [lnS]; omega)) | (refine idx_mapI ?_; first | omega | (simp only [lnS]; omega)) | (refine idx_mapN ?_; first | omega | (simp only [lnS]; omega)) | rfl)) (by first | (simp only [packA_t, packA_f, iE, bE, setAt, cellsA, Value.cells, map_vc, map_vn, Nat.reduceAdd, qS] <;> rfl) | rfl)) ⟨_, rfl, (u2 rfl (u4 rfl hb_87))⟩ rfl ?_
                                                                       refine ds_ro' (ro_eq (ro_ld_ref k42_ty3 rfl up_h (by first | exact Nat.le_of_ble_eq_true rfl | omega | (simp only [lnS] <;> omega) | (simp <;> omega))) (by first | (simp only [packA_t, packA_f, iE, bE, setAt, cellsA, Value.cells, map_vc, map_vn, Nat.reduceAdd, qS] <;> rfl) | rfl)) ⟨_, rfl, (up_m rfl (u2 rfl (u4 rfl hb_87)))⟩ rfl ?_
                                                                       refine ds_ro' (ro_neq (u4 rfl up_h) up_h) ⟨_, rfl, (u8 rfl hb_87)⟩ rfl ?_
                                                                       refine ds_ro' (ro_pickT (up_m rfl (u8 rfl hb_87)) up_h) trivial rfl ?_
                                                                       refine ds_ro' (ro_move up_h) trivial rfl ?_
                                                                       refine ds_case up_h (fun hb_88 hq_88 => ?_) (fun hb_88 hq_88 => ?_)
                                                                       · skip
                                                                         first
                                                                         | (cases hq_88; done) | ((first | replace hq_88 := bnt hq_88 | replace hq_88 := bnf hq_88 | replace hq_88 := bt hq_88 | replace hq_88 := bf hq_88 | replace hq_88 := bt' hq_88 | replace hq_88 := bf' hq_88 | skip); exfalso; omega) | (exact absurd (hs1.symm.trans hq_88) (by decide)) | (exact absurd (hs2.symm.trans hq_88) (by decide)) | (exact absurd (hsj.symm.trans hq_88) (by decide)) | (exact absurd (hsr.symm.trans hq_88) (by decide))
                                                                         | ((first | replace hq_88 := bnt hq_88 | replace hq_88 := bnf hq_88 | replace hq_88 := bt hq_88 | replace hq_88 := bf hq_88 | replace hq_88 := bt' hq_88 | replace hq_88 := bf' hq_88 | skip)
                                                                            refine ds_skip' ⟨_, rfl, .inl hb_88⟩ rfl ?_
                                                                            refine ds_skip' ⟨_, rfl, .inl (up_m rfl hb_88)⟩ rfl ?_
                                                                            refine ds_skip' ⟨_, rfl, .inl (u2 rfl hb_88)⟩ rfl ?_
                                                                            refine ds_skip' ⟨_, rfl, .inl (up_m rfl (u2 rfl hb_88))⟩ rfl ?_
                                                                            refine ds_skip' ⟨_, rfl, .inl (u4 rfl hb_88)⟩ rfl ?_
                                                                            refine ds_skip' ⟨_, rfl, .inr up_h⟩ rfl ?_
                                                                            refine ds_skip' ⟨_, rfl, .inr (up_m rfl up_h)⟩ rfl ?_
                                                                            refine ds_skip' ⟨_, rfl, .inr (u2 rfl up_h)⟩ rfl ?_
                                                                            refine ds_skip' ⟨_, rfl, .inr (up_m rfl (u2 rfl up_h))⟩ rfl ?_
                                                                            refine ds_skip' ⟨_, rfl, .inr (u4 rfl up_h)⟩ rfl ?_
                                                                            refine ds_skip' ⟨_, rfl, .inr (up_m rfl (u4 rfl up_h))⟩ rfl ?_
                                                                            refine ds_skip' ⟨_, rfl, .inr (u2 rfl (u4 rfl up_h))⟩ rfl ?_
                                                                            refine ds_skip' ⟨_, rfl, .inr (up_m rfl (u2 rfl (u4 rfl up_h)))⟩ rfl ?_
                                                                            refine ds_skip' ⟨_, rfl, .inr (u8 rfl up_h)⟩ rfl ?_
                                                                            refine ds_skip' ⟨_, rfl, .inr (up_m rfl (u8 rfl up_h))⟩ rfl ?_
                                                                            refine ds_skip' ⟨_, rfl, .inr (u2 rfl (u8 rfl up_h))⟩ rfl ?_
                                                                            refine ds_skip' ⟨_, rfl, .inr (up_m rfl (u2 rfl (u8 rfl up_h)))⟩ rfl ?_
                                                                            refine ds_skip' ⟨_, rfl, .inr (u4 rfl (u8 rfl up_h))⟩ rfl ?_
                                                                            refine ds_skip' ⟨_, rfl, .inr (up_m rfl (u4 rfl (u8 rfl up_h)))⟩ rfl ?_
                                                                            refine ds_skip' ⟨_, rfl, .inr (u2 rfl (u4 rfl (u8 rfl up_h)))⟩ rfl ?_
                                                                            refine ds_skip' ⟨_, rfl, .inr (up_m rfl (u2 rfl (u4 rfl (u8 rfl up_h))))⟩ rfl ?_
                                                                            refine ds_skip' ⟨_, rfl, .inr (u16 rfl up_h)⟩ rfl ?_
                                                                            refine ds_skip' ⟨_, rfl, .inr (up_m rfl (u16 rfl up_h))⟩ rfl ?_
                                                                            refine ds_skip' ⟨_, rfl, .inr (u2 rfl (u16 rfl up_h))⟩ rfl ?_
                                                                            refine ds_skip' ⟨_, rfl, .inr (up_m rfl (u2 rfl (u16 rfl up_h)))⟩ rfl ?_
                                                                            refine ds_skip' ⟨_, rfl, .inl (up_m rfl (u8 rfl (u16 rfl hb_88)))⟩ rfl ?_
                                                                            refine ds_ro' (ro_pickT (u2 rfl (u8 rfl (u16 rfl hb_88))) ev_c) trivial rfl ?_
                                                                            refine ds_nil ?_
                                                                            refine al_end (fun e_89 he_89 => ?_)
                                                                            have s15_89 := ef 15 he_89 (up_m rfl (u2 rfl (u8 rfl (u16 rfl (u16 rfl s15_84)))))
                                                                            have s17_89 := ef 17 he_89 (up_m rfl (u2 rfl (u8 rfl (u16 rfl (u16 rfl s17_84)))))
                                                                            have s19_89 := ef 19 he_89 (up_m rfl (u2 rfl (u8 rfl (u16 rfl (u16 rfl s19_84)))))
                                                                            have s21_89 := ef 21 he_89 (up_m rfl (u2 rfl (u8 rfl (u16 rfl (u16 rfl s21_84)))))
                                                                            have s219_89 := ef 219 he_89 up_h
                                                                            clear he_89
                                                                            refine then_n ⟨(s219_89).trans (by (first | rfl | (refine avb ?_; simp only [decide_eq_true_eq, Bool.not_eq_true', decide_eq_false_iff_not, Bool.false_eq_true, iff_false, false_iff, true_iff, iff_true, Classical.not_not]; first | omega | (have hf := pl_first (ps := ps) (qs := qs) i1 (by omega); omega) | (have hf := pl_second (ps := ps) (qs := qs) (i := i) (by omega) (by omega); rw [show (i - ((plW ps ps.length).length : Int) + 1).toNat = (i - ps.length).toNat by omega, show (((plW ps ps.length).length : Int) - 1).toNat = ps.length by omega]; omega)))), (s15_89).trans (s15_84).symm, (s17_89).trans (s17_84).symm, (s19_89).trans (s19_84).symm, (s21_89).trans (s21_84).symm, rfl⟩)
                                                                       · skip
                                                                         first
                                                                         | (cases hq_88; done) | ((first | replace hq_88 := bnt hq_88 | replace hq_88 := bnf hq_88 | replace hq_88 := bt hq_88 | replace hq_88 := bf hq_88 | replace hq_88 := bt' hq_88 | replace hq_88 := bf' hq_88 | skip); exfalso; omega) | (exact absurd (hs1.symm.trans hq_88) (by decide)) | (exact absurd (hs2.symm.trans hq_88) (by decide)) | (exact absurd (hsj.symm.trans hq_88) (by decide)) | (exact absurd (hsr.symm.trans hq_88) (by decide))
                                                                         | ((first | replace hq_88 := bnt hq_88 | replace hq_88 := bnf hq_88 | replace hq_88 := bt hq_88 | replace hq_88 := bf hq_88 | replace hq_88 := bt' hq_88 | replace hq_88 := bf' hq_88 | skip)
                                                                            refine ds_ro' (ro_move (u16 rfl s21_84)) ⟨_, rfl, hb_88⟩ rfl ?_
                                                                            refine ds_ro' (ro_move (up_m rfl (u16 rfl s15_84))) ⟨_, rfl, (up_m rfl hb_88)⟩ rfl ?_
                                                                            refine ds_ro' (ro_eq (ro_len_row up_h rfl k42_sl30.1) (by first | (simp only [lnS] <;> rfl) | rfl)) ⟨_, rfl, (u2 rfl hb_88)⟩ rfl ?_
                                                                            refine ds_ro' (ro_geq (u2 rfl up_h) up_h) ⟨_, rfl, (up_m rfl (u2 rfl hb_88))⟩ rfl ?_
                                                                            refine ds_ro' (ro_move up_h) ⟨_, rfl, (u4 rfl hb_88)⟩ rfl ?_
                                                                            refine ds_case up_h (fun hb_90 hq_90 => ?_) (fun hb_90 hq_90 => ?_)
                                                                            · skip
                                                                              first
                                                                              | (cases hq_90; done) | ((first | replace hq_90 := bnt hq_90 | replace hq_90 := bnf hq_90 | replace hq_90 := bt hq_90 | replace hq_90 := bf hq_90 | replace hq_90 := bt' hq_90 | replace hq_90 := bf' hq_90 | skip); exfalso; omega) | (exact absurd (hs1.symm.trans hq_90) (by decide)) | (exact absurd (hs2.symm.trans hq_90) (by decide)) | (exact absurd (hsj.symm.trans hq_90) (by decide)) | (exact absurd (hsr.symm.trans hq_90) (by decide))
                                                                              | ((first | replace hq_90 := bnt hq_90 | replace hq_90 := bnf hq_90 | replace hq_90 := bt hq_90 | replace hq_90 := bf hq_90 | replace hq_90 := bt' hq_90 | replace hq_90 := bf' hq_90 | skip)
                                                                                 refine ds_ro' (ro_move (up_m rfl (u4 rfl (u16 rfl s19_84)))) ⟨_, rfl, hb_90⟩ rfl ?_
                                                                                 refine ds_ro' (ro_move (u2 rfl (u4 rfl (u16 rfl s21_84)))) ⟨_, rfl, (up_m rfl hb_90)⟩ rfl ?_
                                                                                 refine ds_ro' (ro_eq (ro_ix k42_sl30 (up_m rfl up_h) up_h (by first | decide | omega | (simp <;> omega)) (by first | (refine idx_map ?_; first | omega | (simp only [lnS]; omega)) | (refine idx_mapI ?_; first | omega | (simp only [lnS]; omega)) | (refine idx_mapN ?_; first | omega | (simp only [lnS]; omega)) | rfl)) (by first | (simp only [packA_t, packA_f, iE, bE, setAt, cellsA, Value.cells, map_vc, map_vn, Nat.reduceAdd, qS] <;> rfl) | rfl)) ⟨_, rfl, (u2 rfl hb_90)⟩ rfl ?_
                                                                                 refine ds_ro' (ro_eq (ro_ld_ref k42_ty3 rfl up_h (by first | exact Nat.le_of_ble_eq_true rfl | omega | (simp only [lnS] <;> omega) | (simp <;> omega))) (by first | (simp only [packA_t, packA_f, iE, bE, setAt, cellsA, Value.cells, map_vc, map_vn, Nat.reduceAdd, qS] <;> rfl) | rfl)) ⟨_, rfl, (up_m rfl (u2 rfl hb_90))⟩ rfl ?_
                                                                                 refine ds_ro' (ro_move (up_m rfl (u8 rfl (u16 rfl s15_84)))) ⟨_, rfl, (u4 rfl hb_90)⟩ rfl ?_
                                                                                 refine ds_ro' (ro_move (u2 rfl (u8 rfl (u16 rfl s15_84)))) ⟨_, rfl, (up_m rfl (u4 rfl hb_90))⟩ rfl ?_
                                                                                 refine ds_ro' (ro_eq (ro_len_row up_h rfl k42_sl30.1) (by first | (simp only [lnS] <;> rfl) | rfl)) ⟨_, rfl, (u2 rfl (u4 rfl hb_90))⟩ rfl ?_
                                                                                 first | (refine ds_ro' (ro_sub' up_h ev_c ?_) ⟨_, rfl, (up_m rfl (u2 rfl (u4 rfl hb_90)))⟩ rfl ?_; · (unfold In64; omega)) | refine ds_ro' (ro_sub up_h ev_c) ⟨_, rfl, (up_m rfl (u2 rfl (u4 rfl hb_90)))⟩ rfl ?_
                                                                                 refine ds_ro' (ro_eq (ro_ix k42_sl30 (up_m rfl (u2 rfl up_h)) up_h (by first | decide | omega | (simp <;> omega)) (by first | (refine idx_map ?_; first | omega | (simp only [lnS]; omega)) | (refine idx_mapI ?_; first | omega | (simp only [lnS]; omega)) | (refine idx_mapN ?_; first | omega | (simp only [lnS]; omega)) | rfl)) (by first | (simp only [packA_t, packA_f, iE, bE, setAt, cellsA, Value.cells, map_vc, map_vn, Nat.reduceAdd, qS] <;> rfl) | rfl)) ⟨_, rfl, (u8 rfl hb_90)⟩ rfl ?_
                                                                                 refine ds_ro' (ro_eq (ro_ld_ref k42_ty3 rfl up_h (by first | exact Nat.le_of_ble_eq_true rfl | omega | (simp only [lnS] <;> omega) | (simp <;> omega))) (by first | (simp only [packA_t, packA_f, iE, bE, setAt, cellsA, Value.cells, map_vc, map_vn, Nat.reduceAdd, qS] <;> rfl) | rfl)) ⟨_, rfl, (up_m rfl (u8 rfl hb_90))⟩ rfl ?_
                                                                                 refine ds_ro' (ro_move (up_m rfl (u2 rfl (u4 rfl (u8 rfl (u16 rfl s17_84)))))) ⟨_, rfl, (u2 rfl (u8 rfl hb_90))⟩ rfl ?_
                                                                                 refine ds_ro' (ro_move (u16 rfl (u16 rfl s21_84))) ⟨_, rfl, (up_m rfl (u2 rfl (u8 rfl hb_90)))⟩ rfl ?_
                                                                                 refine ds_ro' (ro_move (up_m rfl (u16 rfl (u16 rfl s15_84)))) ⟨_, rfl, (u4 rfl (u8 rfl hb_90))⟩ rfl ?_
                                                                                 refine ds_ro' (ro_eq (ro_len_row up_h rfl k42_sl30.1) (by first | (simp only [lnS] <;> rfl) | rfl)) ⟨_, rfl, (up_m rfl (u4 rfl (u8 rfl hb_90)))⟩ rfl ?_
                                                                                 first | (refine ds_ro' (ro_sub' (u2 rfl up_h) up_h ?_) ⟨_, rfl, (u2 rfl (u4 rfl (u8 rfl hb_90)))⟩ rfl ?_; · (unfold In64; omega)) | refine ds_ro' (ro_sub (u2 rfl up_h) up_h) ⟨_, rfl, (u2 rfl (u4 rfl (u8 rfl hb_90)))⟩ rfl ?_
                                                                                 first | (refine ds_ro' (ro_add' up_h ev_c ?_) ⟨_, rfl, (up_m rfl (u2 rfl (u4 rfl (u8 rfl hb_90))))⟩ rfl ?_; · (unfold In64; omega)) | refine ds_ro' (ro_add up_h ev_c) ⟨_, rfl, (up_m rfl (u2 rfl (u4 rfl (u8 rfl hb_90))))⟩ rfl ?_
                                                                                 refine ds_ro' (ro_eq (ro_ix k42_sl30 (up_m rfl (u4 rfl up_h)) up_h (by first | decide | omega | (simp <;> omega)) (by first | (refine idx_map ?_; first | omega | (simp only [lnS]; omega)) | (refine idx_mapI ?_; first | omega | (simp only [lnS]; omega)) | (refine idx_mapN ?_; first | omega | (simp only [lnS]; omega)) | rfl)) (by first | (simp only [packA_t, packA_f, iE, bE, setAt, cellsA, Value.cells, map_vc, map_vn, Nat.reduceAdd, qS] <;> rfl) | rfl)) ⟨_, rfl, (u16 rfl hb_90)⟩ rfl ?_
                                                                                 refine ds_ro' (ro_eq (ro_ld_ref k42_ty3 rfl up_h (by first | exact Nat.le_of_ble_eq_true rfl | omega | (simp only [lnS] <;> omega) | (simp <;> omega))) (by first | (simp only [packA_t, packA_f, iE, bE, setAt, cellsA, Value.cells, map_vc, map_vn, Nat.reduceAdd, qS] <;> rfl) | rfl)) ⟨_, rfl, (up_m rfl (u16 rfl hb_90))⟩ rfl ?_
                                                                                 first | (refine ds_ro' (ro_add' (u8 rfl up_h) up_h ?_) ⟨_, rfl, (u2 rfl (u16 rfl hb_90))⟩ rfl ?_; · (unfold In64; omega)) | refine ds_ro' (ro_add (u8 rfl up_h) up_h) ⟨_, rfl, (u2 rfl (u16 rfl hb_90))⟩ rfl ?_
                                                                                 refine ds_ro' (ro_neq (up_m rfl (u2 rfl (u4 rfl (u8 rfl up_h)))) up_h) ⟨_, rfl, (up_m rfl (u2 rfl (u16 rfl hb_90)))⟩ rfl ?_
                                                                                 refine ds_ro' (ro_pickT (u4 rfl (u16 rfl hb_90)) up_h) ⟨_, rfl, (up_m rfl (u8 rfl (u16 rfl hb_88)))⟩ rfl ?_
                                                                                 refine ds_ro' (ro_pickF (u2 rfl (u8 rfl (u16 rfl hb_88))) up_h) trivial rfl ?_
                                                                                 refine ds_nil ?_
                                                                                 refine al_end (fun e_91 he_91 => ?_)
                                                                                 have s15_91 := ef 15 he_91 (up_m rfl (u2 rfl (u8 rfl (u16 rfl (u16 rfl s15_84)))))
                                                                                 have s17_91 := ef 17 he_91 (up_m rfl (u2 rfl (u8 rfl (u16 rfl (u16 rfl s17_84)))))
                                                                                 have s19_91 := ef 19 he_91 (up_m rfl (u2 rfl (u8 rfl (u16 rfl (u16 rfl s19_84)))))
                                                                                 have s21_91 := ef 21 he_91 (up_m rfl (u2 rfl (u8 rfl (u16 rfl (u16 rfl s21_84)))))
                                                                                 have s219_91 := ef 219 he_91 up_h
                                                                                 clear he_91
                                                                                 refine then_n ⟨(s219_91).trans (by (first | rfl | (refine avb ?_; simp only [decide_eq_true_eq, Bool.not_eq_true', decide_eq_false_iff_not, Bool.false_eq_true, iff_false, false_iff, true_iff, iff_true, Classical.not_not]; first | omega | (have hf := pl_first (ps := ps) (qs := qs) i1 (by omega); omega) | (have hf := pl_second (ps := ps) (qs := qs) (i := i) (by omega) (by omega); rw [show (i - ((plW ps ps.length).length : Int) + 1).toNat = (i - ps.length).toNat by omega, show (((plW ps ps.length).length : Int) - 1).toNat = ps.length by omega]; omega)))), (s15_91).trans (s15_84).symm, (s17_91).trans (s17_84).symm, (s19_91).trans (s19_84).symm, (s21_91).trans (s21_84).symm, rfl⟩)
                                                                            · skip
                                                                              first
                                                                              | (cases hq_90; done) | ((first | replace hq_90 := bnt hq_90 | replace hq_90 := bnf hq_90 | replace hq_90 := bt hq_90 | replace hq_90 := bf hq_90 | replace hq_90 := bt' hq_90 | replace hq_90 := bf' hq_90 | skip); exfalso; omega) | (exact absurd (hs1.symm.trans hq_90) (by decide)) | (exact absurd (hs2.symm.trans hq_90) (by decide)) | (exact absurd (hsj.symm.trans hq_90) (by decide)) | (exact absurd (hsr.symm.trans hq_90) (by decide))
                                                                              | ((first | replace hq_90 := bnt hq_90 | replace hq_90 := bnf hq_90 | replace hq_90 := bt hq_90 | replace hq_90 := bf hq_90 | replace hq_90 := bt' hq_90 | replace hq_90 := bf' hq_90 | skip)
                                                                                 refine ds_skip' ⟨_, rfl, .inl hb_90⟩ rfl ?_
                                                                                 refine ds_skip' ⟨_, rfl, .inl (up_m rfl hb_90)⟩ rfl ?_
                                                                                 refine ds_skip' ⟨_, rfl, .inl (u2 rfl hb_90)⟩ rfl ?_
                                                                                 refine ds_skip' ⟨_, rfl, .inl (up_m rfl (u2 rfl hb_90))⟩ rfl ?_
                                                                                 refine ds_skip' ⟨_, rfl, .inl (u4 rfl hb_90)⟩ rfl ?_
                                                                                 refine ds_skip' ⟨_, rfl, .inl (up_m rfl (u4 rfl hb_90))⟩ rfl ?_
                                                                                 refine ds_skip' ⟨_, rfl, .inl (u2 rfl (u4 rfl hb_90))⟩ rfl ?_
                                                                                 refine ds_skip' ⟨_, rfl, .inl (up_m rfl (u2 rfl (u4 rfl hb_90)))⟩ rfl ?_
                                                                                 refine ds_skip' ⟨_, rfl, .inl (u8 rfl hb_90)⟩ rfl ?_
                                                                                 refine ds_skip' ⟨_, rfl, .inl (up_m rfl (u8 rfl hb_90))⟩ rfl ?_
                                                                                 refine ds_skip' ⟨_, rfl, .inl (u2 rfl (u8 rfl hb_90))⟩ rfl ?_
                                                                                 refine ds_skip' ⟨_, rfl, .inl (up_m rfl (u2 rfl (u8 rfl hb_90)))⟩ rfl ?_
                                                                                 refine ds_skip' ⟨_, rfl, .inl (u4 rfl (u8 rfl hb_90))⟩ rfl ?_
                                                                                 refine ds_skip' ⟨_, rfl, .inl (up_m rfl (u4 rfl (u8 rfl hb_90)))⟩ rfl ?_
                                                                                 refine ds_skip' ⟨_, rfl, .inl (u2 rfl (u4 rfl (u8 rfl hb_90)))⟩ rfl ?_
                                                                                 refine ds_skip' ⟨_, rfl, .inl (up_m rfl (u2 rfl (u4 rfl (u8 rfl hb_90))))⟩ rfl ?_
                                                                                 refine ds_skip' ⟨_, rfl, .inl (u16 rfl hb_90)⟩ rfl ?_
                                                                                 refine ds_skip' ⟨_, rfl, .inl (up_m rfl (u16 rfl hb_90))⟩ rfl ?_
                                                                                 refine ds_skip' ⟨_, rfl, .inl (u2 rfl (u16 rfl hb_90))⟩ rfl ?_
                                                                                 refine ds_skip' ⟨_, rfl, .inl (up_m rfl (u2 rfl (u16 rfl hb_90)))⟩ rfl ?_
                                                                                 refine ds_ro' (ro_pickF (u4 rfl (u16 rfl hb_90)) ev_c) ⟨_, rfl, (up_m rfl (u8 rfl (u16 rfl hb_88)))⟩ rfl ?_
                                                                                 refine ds_ro' (ro_pickF (u2 rfl (u8 rfl (u16 rfl hb_88))) up_h) trivial rfl ?_
                                                                                 refine ds_nil ?_
                                                                                 refine al_end (fun e_92 he_92 => ?_)
                                                                                 have s15_92 := ef 15 he_92 (up_m rfl (u2 rfl (u8 rfl (u16 rfl (u16 rfl s15_84)))))
                                                                                 have s17_92 := ef 17 he_92 (up_m rfl (u2 rfl (u8 rfl (u16 rfl (u16 rfl s17_84)))))
                                                                                 have s19_92 := ef 19 he_92 (up_m rfl (u2 rfl (u8 rfl (u16 rfl (u16 rfl s19_84)))))
                                                                                 have s21_92 := ef 21 he_92 (up_m rfl (u2 rfl (u8 rfl (u16 rfl (u16 rfl s21_84)))))
                                                                                 have s219_92 := ef 219 he_92 up_h
                                                                                 clear he_92
                                                                                 refine then_n ⟨(s219_92).trans (by (first | rfl | (refine avb ?_; simp only [decide_eq_true_eq, Bool.not_eq_true', decide_eq_false_iff_not, Bool.false_eq_true, iff_false, false_iff, true_iff, iff_true, Classical.not_not]; first | omega | (have hf := pl_first (ps := ps) (qs := qs) i1 (by omega); omega) | (have hf := pl_second (ps := ps) (qs := qs) (i := i) (by omega) (by omega); rw [show (i - ((plW ps ps.length).length : Int) + 1).toNat = (i - ps.length).toNat by omega, show (((plW ps ps.length).length : Int) - 1).toNat = ps.length by omega]; omega)))), (s15_92).trans (s15_84).symm, (s17_92).trans (s17_84).symm, (s19_92).trans (s19_84).symm, (s21_92).trans (s21_84).symm, rfl⟩)))
                                                                  · skip
                                                                    first
                                                                    | (cases hq_87; done) | ((first | replace hq_87 := bnt hq_87 | replace hq_87 := bnf hq_87 | replace hq_87 := bt hq_87 | replace hq_87 := bf hq_87 | replace hq_87 := bt' hq_87 | replace hq_87 := bf' hq_87 | skip); exfalso; omega) | (exact absurd (hs1.symm.trans hq_87) (by decide)) | (exact absurd (hs2.symm.trans hq_87) (by decide)) | (exact absurd (hsj.symm.trans hq_87) (by decide)) | (exact absurd (hsr.symm.trans hq_87) (by decide))
                                                                    | ((first | replace hq_87 := bnt hq_87 | replace hq_87 := bnf hq_87 | replace hq_87 := bt hq_87 | replace hq_87 := bf hq_87 | replace hq_87 := bt' hq_87 | replace hq_87 := bf' hq_87 | skip)
                                                                       refine ds_skip' ⟨_, rfl, .inl hb_87⟩ rfl ?_
                                                                       refine ds_skip' ⟨_, rfl, .inl (up_m rfl hb_87)⟩ rfl ?_
                                                                       refine ds_skip' ⟨_, rfl, .inl (u2 rfl hb_87)⟩ rfl ?_
                                                                       refine ds_skip' ⟨_, rfl, .inl (up_m rfl (u2 rfl hb_87))⟩ rfl ?_
                                                                       refine ds_skip' ⟨_, rfl, .inl (u4 rfl hb_87)⟩ rfl ?_
                                                                       refine ds_skip' ⟨_, rfl, .inl (up_m rfl (u4 rfl hb_87))⟩ rfl ?_
                                                                       refine ds_skip' ⟨_, rfl, .inl (u2 rfl (u4 rfl hb_87))⟩ rfl ?_
                                                                       refine ds_skip' ⟨_, rfl, .inl (up_m rfl (u2 rfl (u4 rfl hb_87)))⟩ rfl ?_
                                                                       refine ds_skip' ⟨_, rfl, .inl (u8 rfl hb_87)⟩ rfl ?_
                                                                       refine ds_ro' (ro_pickF (up_m rfl (u8 rfl hb_87)) ev_c) trivial rfl ?_
                                                                       refine ds_ro' (ro_move up_h) trivial rfl ?_
                                                                       refine ds_ro' (ro_move (u16 rfl s21_84)) ⟨_, rfl, up_h⟩ rfl ?_
                                                                       refine ds_ro' (ro_move (up_m rfl (u16 rfl s15_84))) ⟨_, rfl, (up_m rfl up_h)⟩ rfl ?_
                                                                       refine ds_ro' (ro_eq (ro_len_row up_h rfl k42_sl30.1) (by first | (simp only [lnS] <;> rfl) | rfl)) ⟨_, rfl, (u2 rfl up_h)⟩ rfl ?_
                                                                       refine ds_ro' (ro_geq (u2 rfl up_h) up_h) ⟨_, rfl, (up_m rfl (u2 rfl up_h))⟩ rfl ?_
                                                                       refine ds_ro' (ro_move up_h) ⟨_, rfl, (u4 rfl up_h)⟩ rfl ?_
                                                                       refine ds_case up_h (fun hb_93 hq_93 => ?_) (fun hb_93 hq_93 => ?_)
                                                                       · skip
                                                                         first
                                                                         | (cases hq_93; done) | ((first | replace hq_93 := bnt hq_93 | replace hq_93 := bnf hq_93 | replace hq_93 := bt hq_93 | replace hq_93 := bf hq_93 | replace hq_93 := bt' hq_93 | replace hq_93 := bf' hq_93 | skip); exfalso; omega) | (exact absurd (hs1.symm.trans hq_93) (by decide)) | (exact absurd (hs2.symm.trans hq_93) (by decide)) | (exact absurd (hsj.symm.trans hq_93) (by decide)) | (exact absurd (hsr.symm.trans hq_93) (by decide))
                                                                         | ((first | replace hq_93 := bnt hq_93 | replace hq_93 := bnf hq_93 | replace hq_93 := bt hq_93 | replace hq_93 := bf hq_93 | replace hq_93 := bt' hq_93 | replace hq_93 := bf' hq_93 | skip)
                                                                            refine ds_ro' (ro_move (up_m rfl (u4 rfl (u16 rfl s19_84)))) ⟨_, rfl, hb_93⟩ rfl ?_
                                                                            refine ds_ro' (ro_move (u2 rfl (u4 rfl (u16 rfl s21_84)))) ⟨_, rfl, (up_m rfl hb_93)⟩ rfl ?_
                                                                            refine ds_ro' (ro_eq (ro_ix k42_sl30 (up_m rfl up_h) up_h (by first | decide | omega | (simp <;> omega)) (by first | (refine idx_map ?_; first | omega | (simp only [lnS]; omega)) | (refine idx_mapI ?_; first | omega | (simp only [lnS]; omega)) | (refine idx_mapN ?_; first | omega | (simp only [lnS]; omega)) | rfl)) (by first | (simp only [packA_t, packA_f, iE, bE, setAt, cellsA, Value.cells, map_vc, map_vn, Nat.reduceAdd, qS] <;> rfl) | rfl)) ⟨_, rfl, (u2 rfl hb_93)⟩ rfl ?_
                                                                            refine ds_ro' (ro_eq (ro_ld_ref k42_ty3 rfl up_h (by first | exact Nat.le_of_ble_eq_true rfl | omega | (simp only [lnS] <;> omega) | (simp <;> omega))) (by first | (simp only [packA_t, packA_f, iE, bE, setAt, cellsA, Value.cells, map_vc, map_vn, Nat.reduceAdd, qS] <;> rfl) | rfl)) ⟨_, rfl, (up_m rfl (u2 rfl hb_93))⟩ rfl ?_
                                                                            refine ds_ro' (ro_move (up_m rfl (u8 rfl (u16 rfl s15_84)))) ⟨_, rfl, (u4 rfl hb_93)⟩ rfl ?_
                                                                            refine ds_ro' (ro_move (u2 rfl (u8 rfl (u16 rfl s15_84)))) ⟨_, rfl, (up_m rfl (u4 rfl hb_93))⟩ rfl ?_
                                                                            refine ds_ro' (ro_eq (ro_len_row up_h rfl k42_sl30.1) (by first | (simp only [lnS] <;> rfl) | rfl)) ⟨_, rfl, (u2 rfl (u4 rfl hb_93))⟩ rfl ?_
                                                                            first | (refine ds_ro' (ro_sub' up_h ev_c ?_) ⟨_, rfl, (up_m rfl (u2 rfl (u4 rfl hb_93)))⟩ rfl ?_; · (unfold In64; omega)) | refine ds_ro' (ro_sub up_h ev_c) ⟨_, rfl, (up_m rfl (u2 rfl (u4 rfl hb_93)))⟩ rfl ?_
                                                                            refine ds_ro' (ro_eq (ro_ix k42_sl30 (up_m rfl (u2 rfl up_h)) up_h (by first | decide | omega | (simp <;> omega)) (by first | (refine idx_map ?_; first | omega | (simp only [lnS]; omega)) | (refine idx_mapI ?_; first | omega | (simp only [lnS]; omega)) | (refine idx_mapN ?_; first | omega | (simp only [lnS]; omega)) | rfl)) (by first | (simp only [packA_t, packA_f, iE, bE, setAt, cellsA, Value.cells, map_vc, map_vn, Nat.reduceAdd, qS] <;> rfl) | rfl)) ⟨_, rfl, (u8 rfl hb_93)⟩ rfl ?_
                                                                            refine ds_ro' (ro_eq (ro_ld_ref k42_ty3 rfl up_h (by first | exact Nat.le_of_ble_eq_true rfl | omega | (simp only [lnS] <;> omega) | (simp <;> omega))) (by first | (simp only [packA_t, packA_f, iE, bE, setAt, cellsA, Value.cells, map_vc, map_vn, Nat.reduceAdd, qS] <;> rfl) | rfl)) ⟨_, rfl, (up_m rfl (u8 rfl hb_93))⟩ rfl ?_
                                                                            refine ds_ro' (ro_move (up_m rfl (u2 rfl (u4 rfl (u8 rfl (u16 rfl s17_84)))))) ⟨_, rfl, (u2 rfl (u8 rfl hb_93))⟩ rfl ?_
                                                                            refine ds_ro' (ro_move (u16 rfl (u16 rfl s21_84))) ⟨_, rfl, (up_m rfl (u2 rfl (u8 rfl hb_93)))⟩ rfl ?_
                                                                            refine ds_ro' (ro_move (up_m rfl (u16 rfl (u16 rfl s15_84)))) ⟨_, rfl, (u4 rfl (u8 rfl hb_93))⟩ rfl ?_
                                                                            refine ds_ro' (ro_eq (ro_len_row up_h rfl k42_sl30.1) (by first | (simp only [lnS] <;> rfl) | rfl)) ⟨_, rfl, (up_m rfl (u4 rfl (u8 rfl hb_93)))⟩ rfl ?_
                                                                            first | (refine ds_ro' (ro_sub' (u2 rfl up_h) up_h ?_) ⟨_, rfl, (u2 rfl (u4 rfl (u8 rfl hb_93)))⟩ rfl ?_; · (unfold In64; omega)) | refine ds_ro' (ro_sub (u2 rfl up_h) up_h) ⟨_, rfl, (u2 rfl (u4 rfl (u8 rfl hb_93)))⟩ rfl ?_
                                                                            first | (refine ds_ro' (ro_add' up_h ev_c ?_) ⟨_, rfl, (up_m rfl (u2 rfl (u4 rfl (u8 rfl hb_93))))⟩ rfl ?_; · (unfold In64; omega)) | refine ds_ro' (ro_add up_h ev_c) ⟨_, rfl, (up_m rfl (u2 rfl (u4 rfl (u8 rfl hb_93))))⟩ rfl ?_
                                                                            refine ds_ro' (ro_eq (ro_ix k42_sl30 (up_m rfl (u4 rfl up_h)) up_h (by first | decide | omega | (simp <;> omega)) (by first | (refine idx_map ?_; first | omega | (simp only [lnS]; omega)) | (refine idx_mapI ?_; first | omega | (simp only [lnS]; omega)) | (refine idx_mapN ?_; first | omega | (simp only [lnS]; omega)) | rfl)) (by first | (simp only [packA_t, packA_f, iE, bE, setAt, cellsA, Value.cells, map_vc, map_vn, Nat.reduceAdd, qS] <;> rfl) | rfl)) ⟨_, rfl, (u16 rfl hb_93)⟩ rfl ?_
                                                                            refine ds_ro' (ro_eq (ro_ld_ref k42_ty3 rfl up_h (by first | exact Nat.le_of_ble_eq_true rfl | omega | (simp only [lnS] <;> omega) | (simp <;> omega))) (by first | (simp only [packA_t, packA_f, iE, bE, setAt, cellsA, Value.cells, map_vc, map_vn, Nat.reduceAdd, qS] <;> rfl) | rfl)) ⟨_, rfl, (up_m rfl (u16 rfl hb_93))⟩ rfl ?_
                                                                            first | (refine ds_ro' (ro_add' (u8 rfl up_h) up_h ?_) ⟨_, rfl, (u2 rfl (u16 rfl hb_93))⟩ rfl ?_; · (unfold In64; omega)) | refine ds_ro' (ro_add (u8 rfl up_h) up_h) ⟨_, rfl, (u2 rfl (u16 rfl hb_93))⟩ rfl ?_
                                                                            refine ds_ro' (ro_neq (up_m rfl (u2 rfl (u4 rfl (u8 rfl up_h)))) up_h) ⟨_, rfl, (up_m rfl (u2 rfl (u16 rfl hb_93)))⟩ rfl ?_
                                                                            refine ds_ro' (ro_pickT (u4 rfl (u16 rfl hb_93)) up_h) ⟨_, rfl, (up_m rfl (u8 rfl (u16 rfl up_h)))⟩ rfl ?_
                                                                            refine ds_ro' (ro_pickF (u2 rfl (u8 rfl (u16 rfl up_h))) up_h) trivial rfl ?_
                                                                            refine ds_nil ?_
                                                                            refine al_end (fun e_94 he_94 => ?_)
                                                                            have s15_94 := ef 15 he_94 (up_m rfl (u2 rfl (u8 rfl (u16 rfl (u16 rfl s15_84)))))
                                                                            have s17_94 := ef 17 he_94 (up_m rfl (u2 rfl (u8 rfl (u16 rfl (u16 rfl s17_84)))))
                                                                            have s19_94 := ef 19 he_94 (up_m rfl (u2 rfl (u8 rfl (u16 rfl (u16 rfl s19_84)))))
                                                                            have s21_94 := ef 21 he_94 (up_m rfl (u2 rfl (u8 rfl (u16 rfl (u16 rfl s21_84)))))
                                                                            have s219_94 := ef 219 he_94 up_h
                                                                            clear he_94
                                                                            refine then_n ⟨(s219_94).trans (by (first | rfl | (refine avb ?_; simp only [decide_eq_true_eq, Bool.not_eq_true', decide_eq_false_iff_not, Bool.false_eq_true, iff_false, false_iff, true_iff, iff_true, Classical.not_not]; first | omega | (have hf := pl_first (ps := ps) (qs := qs) i1 (by omega); omega) | (have hf := pl_second (ps := ps) (qs := qs) (i := i) (by omega) (by omega); rw [show (i - ((plW ps ps.length).length : Int) + 1).toNat = (i - ps.length).toNat by omega, show (((plW ps ps.length).length : Int) - 1).toNat = ps.length by omega]; omega)))), (s15_94).trans (s15_84).symm, (s17_94).trans (s17_84).symm, (s19_94).trans (s19_84).symm, (s21_94).trans (s21_84).symm, rfl⟩)
                                                                       · skip
                                                                         first
                                                                         | (cases hq_93; done) | ((first | replace hq_93 := bnt hq_93 | replace hq_93 := bnf hq_93 | replace hq_93 := bt hq_93 | replace hq_93 := bf hq_93 | replace hq_93 := bt' hq_93 | replace hq_93 := bf' hq_93 | skip); exfalso; omega) | (exact absurd (hs1.symm.trans hq_93) (by decide)) | (exact absurd (hs2.symm.trans hq_93) (by decide)) | (exact absurd (hsj.symm.trans hq_93) (by decide)) | (exact absurd (hsr.symm.trans hq_93) (by decide))
                                                                         | ((first | replace hq_93 := bnt hq_93 | replace hq_93 := bnf hq_93 | replace hq_93 := bt hq_93 | replace hq_93 := bf hq_93 | replace hq_93 := bt' hq_93 | replace hq_93 := bf' hq_93 | skip)
                                                                            refine ds_skip' ⟨_, rfl, .inl hb_93⟩ rfl ?_
                                                                            refine ds_skip' ⟨_, rfl, .inl (up_m rfl hb_93)⟩ rfl ?_
                                                                            refine ds_skip' ⟨_, rfl, .inl (u2 rfl hb_93)⟩ rfl ?_
                                                                            refine ds_skip' ⟨_, rfl, .inl (up_m rfl (u2 rfl hb_93))⟩ rfl ?_
                                                                            refine ds_skip' ⟨_, rfl, .inl (u4 rfl hb_93)⟩ rfl ?_
                                                                            refine ds_skip' ⟨_, rfl, .inl (up_m rfl (u4 rfl hb_93))⟩ rfl ?_
                                                                            refine ds_skip' ⟨_, rfl, .inl (u2 rfl (u4 rfl hb_93))⟩ rfl ?_
                                                                            refine ds_skip' ⟨_, rfl, .inl (up_m rfl (u2 rfl (u4 rfl hb_93)))⟩ rfl ?_
                                                                            refine ds_skip' ⟨_, rfl, .inl (u8 rfl hb_93)⟩ rfl ?_
                                                                            refine ds_skip' ⟨_, rfl, .inl (up_m rfl (u8 rfl hb_93))⟩ rfl ?_
                                                                            refine ds_skip' ⟨_, rfl, .inl (u2 rfl (u8 rfl hb_93))⟩ rfl ?_
                                                                            refine ds_skip' ⟨_, rfl, .inl (up_m rfl (u2 rfl (u8 rfl hb_93)))⟩ rfl ?_
                                                                            refine ds_skip' ⟨_, rfl, .inl (u4 rfl (u8 rfl hb_93))⟩ rfl ?_
                                                                            refine ds_skip' ⟨_, rfl, .inl (up_m rfl (u4 rfl (u8 rfl hb_93)))⟩ rfl ?_
                                                                            refine ds_skip' ⟨_, rfl, .inl (u2 rfl (u4 rfl (u8 rfl hb_93)))⟩ rfl ?_
                                                                            refine ds_skip' ⟨_, rfl, .inl (up_m rfl (u2 rfl (u4 rfl (u8 rfl hb_93))))⟩ rfl ?_
                                                                            refine ds_skip' ⟨_, rfl, .inl (u16 rfl hb_93)⟩ rfl ?_
                                                                            refine ds_skip' ⟨_, rfl, .inl (up_m rfl (u16 rfl hb_93))⟩ rfl ?_
                                                                            refine ds_skip' ⟨_, rfl, .inl (u2 rfl (u16 rfl hb_93))⟩ rfl ?_
                                                                            refine ds_skip' ⟨_, rfl, .inl (up_m rfl (u2 rfl (u16 rfl hb_93)))⟩ rfl ?_
                                                                            refine ds_ro' (ro_pickF (u4 rfl (u16 rfl hb_93)) ev_c) ⟨_, rfl, (up_m rfl (u8 rfl (u16 rfl up_h)))⟩ rfl ?_
                                                                            refine ds_ro' (ro_pickF (u2 rfl (u8 rfl (u16 rfl up_h))) up_h) trivial rfl ?_
                                                                            refine ds_nil ?_
                                                                            refine al_end (fun e_95 he_95 => ?_)
                                                                            have s15_95 := ef 15 he_95 (up_m rfl (u2 rfl (u8 rfl (u16 rfl (u16 rfl s15_84)))))
                                                                            have s17_95 := ef 17 he_95 (up_m rfl (u2 rfl (u8 rfl (u16 rfl (u16 rfl s17_84)))))
                                                                            have s19_95 := ef 19 he_95 (up_m rfl (u2 rfl (u8 rfl (u16 rfl (u16 rfl s19_84)))))
                                                                            have s21_95 := ef 21 he_95 (up_m rfl (u2 rfl (u8 rfl (u16 rfl (u16 rfl s21_84)))))
                                                                            have s219_95 := ef 219 he_95 up_h
                                                                            clear he_95
                                                                            refine then_n ⟨(s219_95).trans (by (first | rfl | (refine avb ?_; simp only [decide_eq_true_eq, Bool.not_eq_true', decide_eq_false_iff_not, Bool.false_eq_true, iff_false, false_iff, true_iff, iff_true, Classical.not_not]; first | omega | (have hf := pl_first (ps := ps) (qs := qs) i1 (by omega); omega) | (have hf := pl_second (ps := ps) (qs := qs) (i := i) (by omega) (by omega); rw [show (i - ((plW ps ps.length).length : Int) + 1).toNat = (i - ps.length).toNat by omega, show (((plW ps ps.length).length : Int) - 1).toNat = ps.length by omega]; omega)))), (s15_95).trans (s15_84).symm, (s17_95).trans (s17_84).symm, (s19_95).trans (s19_84).symm, (s21_95).trans (s21_84).symm, rfl⟩))
                                                                · rintro e_86 _ ⟨s219_86, k15_86, k17_86, k19_86, k21_86, rfl⟩
                                                                  have s15_86 := k15_86.trans s15_84
                                                                  have s17_86 := k17_86.trans s17_84
                                                                  have s19_86 := k19_86.trans s19_84
                                                                  have s21_86 := k21_86.trans s21_84
                                                                  refine aw_case s219_86 (fun hq_96 => ?_) (fun hq_96 => ?_)
                                                                  · skip
                                                                    first
                                                                    | (cases hq_96; done) | ((first | replace hq_96 := bnt hq_96 | replace hq_96 := bnf hq_96 | replace hq_96 := bt hq_96 | replace hq_96 := bf hq_96 | replace hq_96 := bt' hq_96 | replace hq_96 := bf' hq_96 | skip); exfalso; omega) | (exact absurd (hs1.symm.trans hq_96) (by decide)) | (exact absurd (hs2.symm.trans hq_96) (by decide)) | (exact absurd (hsj.symm.trans hq_96) (by decide)) | (exact absurd (hsr.symm.trans hq_96) (by decide))
                                                                    | ((first | replace hq_96 := bnt hq_96 | replace hq_96 := bnf hq_96 | replace hq_96 := bt hq_96 | replace hq_96 := bf hq_96 | replace hq_96 := bt' hq_96 | replace hq_96 := bf' hq_96 | skip)
                                                                       refine aw_seq ?_
                                                                       refine aw_text (by kernel_rfl) ?_
                                                                       refine al_ro' (ro_assign ev_c) trivial rfl ?_
                                                                       refine al_end (fun e_97 he_97 => ?_)
                                                                       have s4_97 := ef 4 he_97 up_h
                                                                       clear he_97 s15_86 s17_86 s19_86 s219_86 s21_86
                                                                       refine then_n ?_
                                                                       refine aw_ret ?_
                                                                       refine block_r ?_
                                                                       refine then_r ?_
                                                                       refine then_r ?_
                                                                       refine block_r ?_
                                                                       refine then_r ?_
                                                                       refine ret1 (.inr rfl) (by kernel_rfl) (resV_tmp s4_97) (.ro _ rfl) ?_
                                                                       clear s4_97 mo6_83 mo5_83 mo4_83 mo3_83 mo2_83 mo1_83 mo0_83 ml_83
                                                                       (first | rfl | exact congrArg (fun b => bA b) hs1 | exact congrArg (fun b => bA b) hs2 | (simp [hs1, hs2]; done) | (rw [hja] at *; exfalso; omega) | (exfalso; omega)))
                                                                  · skip
                                                                    first
                                                                    | (cases hq_96; done) | ((first | replace hq_96 := bnt hq_96 | replace hq_96 := bnf hq_96 | replace hq_96 := bt hq_96 | replace hq_96 := bf hq_96 | replace hq_96 := bt' hq_96 | replace hq_96 := bf' hq_96 | skip); exfalso; omega) | (exact absurd (hs1.symm.trans hq_96) (by decide)) | (exact absurd (hs2.symm.trans hq_96) (by decide)) | (exact absurd (hsj.symm.trans hq_96) (by decide)) | (exact absurd (hsr.symm.trans hq_96) (by decide))
                                                                    | ((first | replace hq_96 := bnt hq_96 | replace hq_96 := bnf hq_96 | replace hq_96 := bt hq_96 | replace hq_96 := bf hq_96 | replace hq_96 := bt' hq_96 | replace hq_96 := bf' hq_96 | skip)
                                                                       refine aw_skip ?_
                                                                       refine block_n ?_
                                                                       refine then_n ?_
                                                                       refine aw_text (by kernel_rfl) ?_
                                                                       refine al_ro' (ro_move s21_86) trivial rfl ?_
                                                                       first | (refine al_ro' (ro_add' up_h ev_c ?_) trivial rfl ?_; · (unfold In64; omega)) | refine al_ro' (ro_add up_h ev_c) trivial rfl ?_
                                                                       refine al_ro' (ro_assign up_h) trivial rfl ?_
                                                                       refine al_end (fun e_98 he_98 => ?_)
                                                                       have s15_98 := ef 15 he_98 (up_m rfl (u2 rfl s15_86))
                                                                       have s17_98 := ef 17 he_98 (up_m rfl (u2 rfl s17_86))
                                                                       have s19_98 := ef 19 he_98 (up_m rfl (u2 rfl s19_86))
                                                                       have s21_98 := ef 21 he_98 up_h
                                                                       clear he_98 s15_86 s17_86 s19_86 s219_86 s21_86
                                                                       refine then_n ?_
                                                                       refine ⟨_, ⟨s21_98, (s15_98.trans s15_82.symm), (s17_98.trans s17_82.symm), (s19_98.trans s19_82.symm), (mo6_83.trans mo6_54.symm), (mo5_83.trans mo5_54.symm), (mo4_83.trans mo4_54.symm), (mo3_83.trans mo3_54.symm), (mo2_83.trans mo2_54.symm), (mo1_83.trans mo1_54.symm), (mo0_83.trans mo0_54.symm), ml_83, ?_⟩, ?_⟩
                                                                       · (exact ⟨by omega, by omega⟩)
                                                                       · ((try dsimp only); omega)))
                                                           · skip
                                                             first
                                                             | (cases hq_85; done) | ((first | replace hq_85 := bnt hq_85 | replace hq_85 := bnf hq_85 | replace hq_85 := bt hq_85 | replace hq_85 := bf hq_85 | replace hq_85 := bt' hq_85 | replace hq_85 := bf' hq_85 | skip); exfalso; omega) | (exact absurd (hs1.symm.trans hq_85) (by decide)) | (exact absurd (hs2.symm.trans hq_85) (by decide)) | (exact absurd (hsj.symm.trans hq_85) (by decide)) | (exact absurd (hsr.symm.trans hq_85) (by decide))
                                                             | ((first | replace hq_85 := bnt hq_85 | replace hq_85 := bnf hq_85 | replace hq_85 := bt hq_85 | replace hq_85 := bf hq_85 | replace hq_85 := bt' hq_85 | replace hq_85 := bf' hq_85 | skip)
                                                                refine aw_exit ?_
                                                                refine then_x ?_
                                                                refine then_x ?_
                                                                refine block_hit ?_
                                                                refine then_n ?_
                                                                refine aw_seq ?_
                                                                refine aw_text (by kernel_rfl) ?_
                                                                refine al_ro' (ro_assign ev_c) trivial rfl ?_
                                                                refine al_end (fun e_99 he_99 => ?_)
                                                                have s4_99 := ef 4 he_99 up_h
                                                                clear he_99 s15_84 s174_84 s17_84 s19_84 s21_84
                                                                refine then_n ?_
                                                                refine aw_ret ?_
                                                                refine ret1 (.inr rfl) (by kernel_rfl) (resV_tmp s4_99) (.ro _ rfl) ?_
                                                                clear s4_99 mo6_83 mo5_83 mo4_83 mo3_83 mo2_83 mo1_83 mo0_83 ml_83
                                                                (first | rfl | exact congrArg (fun b => bA b) hs1 | exact congrArg (fun b => bA b) hs2 | (simp [hs1, hs2]; done) | (rw [hja] at *; exfalso; omega) | (exfalso; omega)))))))
                                 · skip
                                   first
                                   | (cases hq_53; done) | ((first | replace hq_53 := bnt hq_53 | replace hq_53 := bnf hq_53 | replace hq_53 := bt hq_53 | replace hq_53 := bf hq_53 | replace hq_53 := bt' hq_53 | replace hq_53 := bf' hq_53 | skip); exfalso; omega) | (exact absurd (hs1.symm.trans hq_53) (by decide)) | (exact absurd (hs2.symm.trans hq_53) (by decide)) | (exact absurd (hsj.symm.trans hq_53) (by decide)) | (exact absurd (hsr.symm.trans hq_53) (by decide))
                                   | ((first | replace hq_53 := bnt hq_53 | replace hq_53 := bnf hq_53 | replace hq_53 := bt hq_53 | replace hq_53 := bf hq_53 | replace hq_53 := bt' hq_53 | replace hq_53 := bf' hq_53 | skip)
                                      (have hnb : ¬ (chk nb qs).2 = 0 := (by omega); have hjb := jnE_b (nb := nb) (qs := qs) hz; have hje : jnE na ps nb qs = (chk nb qs).2 := (by omega); have hjn : ¬ jnE na ps nb qs = 0 := (by omega); have hjb := jn_bad hjn; have hs2 : samB (jnN na ps nb qs) (jnP na ps nb qs) ByteArray.empty [] = true := (by rw [hjb.1, hjb.2]; exact samB_refl _ _))
                                      refine aw_skip ?_
                                      refine then_n ?_
                                      refine aw_seq ?_
                                      refine aw_seq ?_
                                      refine aw_cut (fun e mem => (evA e (.tmp 111) = .v (.bool false)) ∧ (evA e (.tmp 2) = evA e_52 (.tmp 2)) ∧ (evA e (.tmp 3) = evA e_52 (.tmp 3)) ∧ (evA e (.tmp 7) = evA e_52 (.tmp 7)) ∧ (evA e (.tmp 13) = evA e_52 (.tmp 13)) ∧ m_50 = mem) ?_ ?_
                                      ·
                                        refine aw_text (by kernel_rfl) ?_
                                        refine al_ro' (ro_move s8_52) trivial rfl ?_
                                        refine al_ro' (ro_move (up_m rfl s13_52)) trivial rfl ?_
                                        refine al_ro' (ro_neq (up_m rfl up_h) up_h) trivial rfl ?_
                                        refine al_ro' (ro_move up_h) trivial rfl ?_
                                        refine al_case up_h (fun hb_101 hq_101 => ?_) (fun hb_101 hq_101 => ?_)
                                        · skip
                                          first
                                          | (cases hq_101; done) | ((first | replace hq_101 := bnt hq_101 | replace hq_101 := bnf hq_101 | replace hq_101 := bt hq_101 | replace hq_101 := bf hq_101 | replace hq_101 := bt' hq_101 | replace hq_101 := bf' hq_101 | skip); exfalso; omega) | (exact absurd (hs1.symm.trans hq_101) (by decide)) | (exact absurd (hs2.symm.trans hq_101) (by decide)) | (exact absurd (hsj.symm.trans hq_101) (by decide)) | (exact absurd (hsr.symm.trans hq_101) (by decide))
                                          | ((first | replace hq_101 := bnt hq_101 | replace hq_101 := bnf hq_101 | replace hq_101 := bt hq_101 | replace hq_101 := bf hq_101 | replace hq_101 := bt' hq_101 | replace hq_101 := bf' hq_101 | skip)
                                             refine al_skip' ⟨_, rfl, .inl hb_101⟩ rfl ?_
                                             refine al_skip' ⟨_, rfl, .inl (up_m rfl hb_101)⟩ rfl ?_
                                             refine al_skip' ⟨_, rfl, .inl (u2 rfl hb_101)⟩ rfl ?_
                                             refine al_skip' ⟨_, rfl, .inl (up_m rfl (u2 rfl hb_101))⟩ rfl ?_
                                             refine al_ro' (ro_pickT (u4 rfl hb_101) ev_c) trivial rfl ?_
                                             refine al_end (fun e_102 he_102 => ?_)
                                             have s2_102 := ef 2 he_102 (up_m rfl (u8 rfl s2_52))
                                             have s3_102 := ef 3 he_102 (up_m rfl (u8 rfl s3_52))
                                             have s7_102 := ef 7 he_102 (up_m rfl (u8 rfl s7_52))
                                             have s13_102 := ef 13 he_102 (up_m rfl (u8 rfl s13_52))
                                             have s111_102 := ef 111 he_102 up_h
                                             clear he_102
                                             refine then_n ⟨(s111_102).trans (by (first | rfl | (refine avb ?_; simp [hje, hsj]; done) | (refine avb ?_; simp [hje, hs2]; done) | (refine avb ?_; simp; omega))), (s2_102).trans (s2_52).symm, (s3_102).trans (s3_52).symm, (s7_102).trans (s7_52).symm, (s13_102).trans (s13_52).symm, rfl⟩)
                                        · skip
                                          first
                                          | (cases hq_101; done) | ((first | replace hq_101 := bnt hq_101 | replace hq_101 := bnf hq_101 | replace hq_101 := bt hq_101 | replace hq_101 := bf hq_101 | replace hq_101 := bt' hq_101 | replace hq_101 := bf' hq_101 | skip); exfalso; omega) | (exact absurd (hs1.symm.trans hq_101) (by decide)) | (exact absurd (hs2.symm.trans hq_101) (by decide)) | (exact absurd (hsj.symm.trans hq_101) (by decide)) | (exact absurd (hsr.symm.trans hq_101) (by decide))
                                          | ((first | replace hq_101 := bnt hq_101 | replace hq_101 := bnf hq_101 | replace hq_101 := bt hq_101 | replace hq_101 := bf hq_101 | replace hq_101 := bt' hq_101 | replace hq_101 := bf' hq_101 | skip)
                                             refine al_ro' (ro_eq (ro_ld_ptr k42_ty24 rfl mo3_50 (u4 rfl s7_52) (by first | exact Nat.le_of_ble_eq_true rfl | omega | (simp only [lnS] <;> omega) | (simp <;> omega))) (by first | (simp only [packA_t, packA_f, iE, bE, setAt, cellsA, Value.cells, map_vc, map_vn, Nat.reduceAdd, qS] <;> rfl) | rfl)) ⟨_, rfl, hb_101⟩ rfl ?_
                                             refine al_ro' (ro_eq (ro_ld_ptr k42_ty24 rfl mo6_50 (up_m rfl (u4 rfl s14_52)) (by first | exact Nat.le_of_ble_eq_true rfl | omega | (simp only [lnS] <;> omega) | (simp <;> omega))) (by first | (simp only [packA_t, packA_f, iE, bE, setAt, cellsA, Value.cells, map_vc, map_vn, Nat.reduceAdd, qS] <;> rfl) | rfl)) ⟨_, rfl, (up_m rfl hb_101)⟩ rfl ?_
                                             first | refine al_ro' (ro_call (evL_cons (up_m rfl up_h) (evL_cons up_h evL_nil)) rfl (same_none _ _ (by omega) _) k42_hcf53) ⟨_, rfl, (u2 rfl hb_101)⟩ rfl ?_ | refine al_ro' (ro_call (evL_cons (up_m rfl up_h) (evL_cons up_h evL_nil)) rfl (rSame_ok _ _ _ _ (by omega) (by omega)) k42_hcf53) ⟨_, rfl, (u2 rfl hb_101)⟩ rfl ?_
                                             refine al_ro' (ro_not up_h) ⟨_, rfl, (up_m rfl (u2 rfl hb_101))⟩ rfl ?_
                                             refine al_ro' (ro_pickF (u4 rfl hb_101) up_h) trivial rfl ?_
                                             refine al_end (fun e_103 he_103 => ?_)
                                             have s2_103 := ef 2 he_103 (up_m rfl (u8 rfl s2_52))
                                             have s3_103 := ef 3 he_103 (up_m rfl (u8 rfl s3_52))
                                             have s7_103 := ef 7 he_103 (up_m rfl (u8 rfl s7_52))
                                             have s13_103 := ef 13 he_103 (up_m rfl (u8 rfl s13_52))
                                             have s111_103 := ef 111 he_103 up_h
                                             clear he_103
                                             refine then_n ⟨(s111_103).trans (by (first | rfl | (refine avb ?_; simp [hje, hsj]; done) | (refine avb ?_; simp [hje, hs2]; done) | (refine avb ?_; simp; omega))), (s2_103).trans (s2_52).symm, (s3_103).trans (s3_52).symm, (s7_103).trans (s7_52).symm, (s13_103).trans (s13_52).symm, rfl⟩)
                                      · rintro e_100 _ ⟨s111_100, k2_100, k3_100, k7_100, k13_100, rfl⟩
                                        have s2_100 := k2_100.trans s2_52
                                        have s3_100 := k3_100.trans s3_52
                                        have s7_100 := k7_100.trans s7_52
                                        have s13_100 := k13_100.trans s13_52
                                        refine aw_case s111_100 (fun hq_104 => ?_) (fun hq_104 => ?_)
                                        · skip
                                          first
                                          | (cases hq_104; done) | ((first | replace hq_104 := bnt hq_104 | replace hq_104 := bnf hq_104 | replace hq_104 := bt hq_104 | replace hq_104 := bf hq_104 | replace hq_104 := bt' hq_104 | replace hq_104 := bf' hq_104 | skip); exfalso; omega) | (exact absurd (hs1.symm.trans hq_104) (by decide)) | (exact absurd (hs2.symm.trans hq_104) (by decide)) | (exact absurd (hsj.symm.trans hq_104) (by decide)) | (exact absurd (hsr.symm.trans hq_104) (by decide))
                                          | ((first | replace hq_104 := bnt hq_104 | replace hq_104 := bnf hq_104 | replace hq_104 := bt hq_104 | replace hq_104 := bf hq_104 | replace hq_104 := bt' hq_104 | replace hq_104 := bf' hq_104 | skip)
                                             refine aw_seq ?_
                                             refine aw_text (by kernel_rfl) ?_
                                             refine al_ro' (ro_assign ev_c) trivial rfl ?_
                                             refine al_end (fun e_105 he_105 => ?_)
                                             have s4_105 := ef 4 he_105 up_h
                                             clear he_105 s111_100 s13_100 s2_100 s3_100 s7_100
                                             refine then_n ?_
                                             refine aw_ret ?_
                                             refine then_r ?_
                                             refine ret1 (.inr rfl) (by kernel_rfl) (resV_tmp s4_105) (.ro _ rfl) ?_
                                             clear s4_105 mo6_50 mo5_50 mo4_50 mo3_50 mo2_50 mo1_50 mo0_50 ml_50
                                             (first | rfl | exact congrArg (fun b => bA b) hs1 | exact congrArg (fun b => bA b) hs2 | (simp [hs1, hs2]; done) | (rw [hja] at *; exfalso; omega) | (exfalso; omega)))
                                        · skip
                                          first
                                          | (cases hq_104; done) | ((first | replace hq_104 := bnt hq_104 | replace hq_104 := bnf hq_104 | replace hq_104 := bt hq_104 | replace hq_104 := bf hq_104 | replace hq_104 := bt' hq_104 | replace hq_104 := bf' hq_104 | skip); exfalso; omega) | (exact absurd (hs1.symm.trans hq_104) (by decide)) | (exact absurd (hs2.symm.trans hq_104) (by decide)) | (exact absurd (hsj.symm.trans hq_104) (by decide)) | (exact absurd (hsr.symm.trans hq_104) (by decide))
                                          | ((first | replace hq_104 := bnt hq_104 | replace hq_104 := bnf hq_104 | replace hq_104 := bt hq_104 | replace hq_104 := bf hq_104 | replace hq_104 := bt' hq_104 | replace hq_104 := bf' hq_104 | skip)
                                             refine aw_skip ?_
                                             refine then_n ?_
                                             refine aw_seq ?_
                                             refine aw_seq ?_
                                             refine aw_text (by kernel_rfl) ?_
                                             refine al_ro' (ro_move s13_100) trivial rfl ?_
                                             refine al_ro' (ro_neq up_h ev_c) trivial rfl ?_
                                             refine al_end (fun e_106 he_106 => ?_)
                                             have s2_106 := ef 2 he_106 (u2 rfl s2_100)
                                             have s3_106 := ef 3 he_106 (u2 rfl s3_100)
                                             have s7_106 := ef 7 he_106 (u2 rfl s7_100)
                                             have s113_106 := ef 113 he_106 up_h
                                             clear he_106 s111_100 s13_100 s2_100 s3_100 s7_100
                                             refine then_n ?_
                                             refine aw_case s113_106 (fun hq_107 => ?_) (fun hq_107 => ?_)
                                             · skip
                                               first
                                               | (cases hq_107; done) | ((first | replace hq_107 := bnt hq_107 | replace hq_107 := bnf hq_107 | replace hq_107 := bt hq_107 | replace hq_107 := bf hq_107 | replace hq_107 := bt' hq_107 | replace hq_107 := bf' hq_107 | skip); exfalso; omega) | (exact absurd (hs1.symm.trans hq_107) (by decide)) | (exact absurd (hs2.symm.trans hq_107) (by decide)) | (exact absurd (hsj.symm.trans hq_107) (by decide)) | (exact absurd (hsr.symm.trans hq_107) (by decide))
                                               | ((first | replace hq_107 := bnt hq_107 | replace hq_107 := bnf hq_107 | replace hq_107 := bt hq_107 | replace hq_107 := bf hq_107 | replace hq_107 := bt' hq_107 | replace hq_107 := bf' hq_107 | skip)
                                                  refine aw_seq ?_
                                                  refine aw_text (by kernel_rfl) ?_
                                                  refine al_ro' (ro_assign ev_c) trivial rfl ?_
                                                  refine al_end (fun e_108 he_108 => ?_)
                                                  have s4_108 := ef 4 he_108 up_h
                                                  clear he_108 s113_106 s2_106 s3_106 s7_106
                                                  refine then_n ?_
                                                  refine aw_ret ?_
                                                  refine then_r ?_
                                                  refine ret1 (.inr rfl) (by kernel_rfl) (resV_tmp s4_108) (.ro _ rfl) ?_
                                                  clear s4_108 mo6_50 mo5_50 mo4_50 mo3_50 mo2_50 mo1_50 mo0_50 ml_50
                                                  (first | rfl | exact congrArg (fun b => bA b) hs1 | exact congrArg (fun b => bA b) hs2 | (simp [hs1, hs2]; done) | (rw [hja] at *; exfalso; omega) | (exfalso; omega)))
                                             · skip
                                               first
                                               | (cases hq_107; done) | ((first | replace hq_107 := bnt hq_107 | replace hq_107 := bnf hq_107 | replace hq_107 := bt hq_107 | replace hq_107 := bf hq_107 | replace hq_107 := bt' hq_107 | replace hq_107 := bf' hq_107 | skip); exfalso; omega) | (exact absurd (hs1.symm.trans hq_107) (by decide)) | (exact absurd (hs2.symm.trans hq_107) (by decide)) | (exact absurd (hsj.symm.trans hq_107) (by decide)) | (exact absurd (hsr.symm.trans hq_107) (by decide))
                                               | ((first | replace hq_107 := bnt hq_107 | replace hq_107 := bnf hq_107 | replace hq_107 := bt hq_107 | replace hq_107 := bf hq_107 | replace hq_107 := bt' hq_107 | replace hq_107 := bf' hq_107 | skip)
                                                  refine aw_skip ?_
                                                  refine then_n ?_
                                                  refine aw_seq ?_
                                                  refine aw_text (by kernel_rfl) ?_
                                                  refine al_ro' (ro_eq (ro_ld_ptr k42_ty24 rfl mo0_50 s2_106 (by first | exact Nat.le_of_ble_eq_true rfl | omega | (simp only [lnS] <;> omega) | (simp <;> omega))) (by first | (simp only [packA_t, packA_f, iE, bE, setAt, cellsA, Value.cells, map_vc, map_vn, Nat.reduceAdd, qS] <;> rfl) | rfl)) trivial rfl ?_
                                                  first | refine al_ro' (ro_call (evL_cons up_h evL_nil) rfl (rCopy_ok na ps (by omega)) k42_hcf18) trivial rfl ?_ | refine al_ro' (ro_call (evL_cons up_h evL_nil) rfl (rCopy_ok nb qs (by omega)) k42_hcf18) trivial rfl ?_ | refine al_ro' (ro_call (evL_cons up_h evL_nil) rfl (rCopy_ok (rvN na ps) (rvQ na ps) (by omega)) k42_hcf18) trivial rfl ?_ | refine al_ro' (ro_call (evL_cons up_h evL_nil) rfl (rCopy_ok (jnN na ps nb qs) (jnP na ps nb qs) (by omega)) k42_hcf18) trivial rfl ?_
                                                  first | refine al_ro' (ro_call (evL_cons up_h evL_nil) rfl (places1_ok hz (by omega) (by omega)) k42_hcf34) trivial rfl ?_ | refine al_ro' (ro_call (evL_cons up_h evL_nil) rfl (places1_ok hzb (by omega) (by omega)) k42_hcf34) trivial rfl ?_ | refine al_ro' (ro_call (evL_cons up_h evL_nil) rfl (places2_ok hj0 (by omega) (by omega)) k42_hcf34) trivial rfl ?_
                                                  refine al_ro' (ro_move up_h) trivial rfl ?_
                                                  refine al_ro' (ro_extract up_h rfl) trivial rfl ?_
                                                  refine al_ro' (ro_extract (up_m rfl up_h) rfl) trivial rfl ?_
                                                  refine al_ro' (ro_assign (up_m rfl up_h)) trivial rfl ?_
                                                  refine al_ro' (ro_assign (up_m rfl up_h)) trivial rfl ?_
                                                  refine al_end (fun e_109 he_109 => ?_)
                                                  have s2_109 := ef 2 he_109 (u8 rfl s2_106)
                                                  have s3_109 := ef 3 he_109 (u8 rfl s3_106)
                                                  have s7_109 := ef 7 he_109 (u8 rfl s7_106)
                                                  have s15_109 := ef 15 he_109 (up_m rfl up_h)
                                                  have s16_109 := ef 16 he_109 up_h
                                                  clear he_109 s113_106 s2_106 s3_106 s7_106
                                                  refine then_n ?_
                                                  refine aw_seq ?_
                                                  refine aw_text (by kernel_rfl) ?_
                                                  refine al_ro' (ro_eq (ro_ld_ptr k42_ty24 rfl mo1_50 s3_109 (by first | exact Nat.le_of_ble_eq_true rfl | omega | (simp only [lnS] <;> omega) | (simp <;> omega))) (by first | (simp only [packA_t, packA_f, iE, bE, setAt, cellsA, Value.cells, map_vc, map_vn, Nat.reduceAdd, qS] <;> rfl) | rfl)) trivial rfl ?_
                                                  first | refine al_ro' (ro_call (evL_cons up_h evL_nil) rfl (rCopy_ok na ps (by omega)) k42_hcf18) trivial rfl ?_ | refine al_ro' (ro_call (evL_cons up_h evL_nil) rfl (rCopy_ok nb qs (by omega)) k42_hcf18) trivial rfl ?_ | refine al_ro' (ro_call (evL_cons up_h evL_nil) rfl (rCopy_ok (rvN na ps) (rvQ na ps) (by omega)) k42_hcf18) trivial rfl ?_ | refine al_ro' (ro_call (evL_cons up_h evL_nil) rfl (rCopy_ok (jnN na ps nb qs) (jnP na ps nb qs) (by omega)) k42_hcf18) trivial rfl ?_
                                                  first | refine al_ro' (ro_call (evL_cons up_h evL_nil) rfl (places1_ok hz (by omega) (by omega)) k42_hcf34) trivial rfl ?_ | refine al_ro' (ro_call (evL_cons up_h evL_nil) rfl (places1_ok hzb (by omega) (by omega)) k42_hcf34) trivial rfl ?_ | refine al_ro' (ro_call (evL_cons up_h evL_nil) rfl (places2_ok hj0 (by omega) (by omega)) k42_hcf34) trivial rfl ?_
                                                  refine al_ro' (ro_move up_h) trivial rfl ?_
                                                  refine al_ro' (ro_extract up_h rfl) trivial rfl ?_
                                                  refine al_ro' (ro_extract (up_m rfl up_h) rfl) trivial rfl ?_
                                                  refine al_ro' (ro_assign (up_m rfl up_h)) trivial rfl ?_
                                                  refine al_ro' (ro_assign (up_m rfl up_h)) trivial rfl ?_
                                                  refine al_end (fun e_110 he_110 => ?_)
                                                  have s2_110 := ef 2 he_110 (u8 rfl s2_109)
                                                  have s3_110 := ef 3 he_110 (u8 rfl s3_109)
                                                  have s7_110 := ef 7 he_110 (u8 rfl s7_109)
                                                  have s15_110 := ef 15 he_110 (u8 rfl s15_109)
                                                  have s16_110 := ef 16 he_110 (u8 rfl s16_109)
                                                  have s17_110 := ef 17 he_110 (up_m rfl up_h)
                                                  have s18_110 := ef 18 he_110 up_h
                                                  clear he_110 s15_109 s16_109 s2_109 s3_109 s7_109
                                                  refine then_n ?_
                                                  refine aw_seq ?_
                                                  refine aw_text (by kernel_rfl) ?_
                                                  refine al_ro' (ro_eq (ro_ld_ptr k42_ty24 rfl mo3_50 s7_110 (by first | exact Nat.le_of_ble_eq_true rfl | omega | (simp only [lnS] <;> omega) | (simp <;> omega))) (by first | (simp only [packA_t, packA_f, iE, bE, setAt, cellsA, Value.cells, map_vc, map_vn, Nat.reduceAdd, qS] <;> rfl) | rfl)) trivial rfl ?_
                                                  first | refine al_ro' (ro_call (evL_cons up_h evL_nil) rfl (rCopy_ok na ps (by omega)) k42_hcf18) trivial rfl ?_ | refine al_ro' (ro_call (evL_cons up_h evL_nil) rfl (rCopy_ok nb qs (by omega)) k42_hcf18) trivial rfl ?_ | refine al_ro' (ro_call (evL_cons up_h evL_nil) rfl (rCopy_ok (rvN na ps) (rvQ na ps) (by omega)) k42_hcf18) trivial rfl ?_ | refine al_ro' (ro_call (evL_cons up_h evL_nil) rfl (rCopy_ok (jnN na ps nb qs) (jnP na ps nb qs) (by omega)) k42_hcf18) trivial rfl ?_
                                                  first | refine al_ro' (ro_call (evL_cons up_h evL_nil) rfl (places1_ok hz (by omega) (by omega)) k42_hcf34) trivial rfl ?_ | refine al_ro' (ro_call (evL_cons up_h evL_nil) rfl (places1_ok hzb (by omega) (by omega)) k42_hcf34) trivial rfl ?_ | refine al_ro' (ro_call (evL_cons up_h evL_nil) rfl (places2_ok hj0 (by omega) (by omega)) k42_hcf34) trivial rfl ?_
                                                  refine al_ro' (ro_move up_h) trivial rfl ?_
                                                  refine al_ro' (ro_extract up_h rfl) trivial rfl ?_
                                                  refine al_ro' (ro_extract (up_m rfl up_h) rfl) trivial rfl ?_
                                                  refine al_ro' (ro_assign (up_m rfl up_h)) trivial rfl ?_
                                                  refine al_ro' (ro_assign (up_m rfl up_h)) trivial rfl ?_
                                                  refine al_end (fun e_111 he_111 => ?_)
                                                  have s2_111 := ef 2 he_111 (u8 rfl s2_110)
                                                  have s3_111 := ef 3 he_111 (u8 rfl s3_110)
                                                  have s15_111 := ef 15 he_111 (u8 rfl s15_110)
                                                  have s16_111 := ef 16 he_111 (u8 rfl s16_110)
                                                  have s17_111 := ef 17 he_111 (u8 rfl s17_110)
                                                  have s18_111 := ef 18 he_111 (u8 rfl s18_110)
                                                  have s19_111 := ef 19 he_111 (up_m rfl up_h)
                                                  have s20_111 := ef 20 he_111 up_h
                                                  clear he_111 s15_110 s16_110 s17_110 s18_110 s2_110 s3_110 s7_110
                                                  refine then_n ?_
                                                  refine aw_seq ?_
                                                  refine aw_seq ?_
                                                  refine aw_cut (fun e mem => (evA e (.tmp 170) = .v (.bool false)) ∧ (evA e (.tmp 15) = evA e_111 (.tmp 15)) ∧ (evA e (.tmp 17) = evA e_111 (.tmp 17)) ∧ (evA e (.tmp 19) = evA e_111 (.tmp 19)) ∧ m_50 = mem) ?_ ?_
                                                  ·
                                                    refine aw_text (by kernel_rfl) ?_
                                                    refine al_ro' (ro_move s16_111) trivial rfl ?_
                                                    refine al_ro' (ro_neq up_h ev_c) trivial rfl ?_
                                                    refine al_ro' (ro_move up_h) trivial rfl ?_
                                                    refine al_case up_h (fun hb_113 hq_113 => ?_) (fun hb_113 hq_113 => ?_)
                                                    · skip
                                                      first
                                                      | (cases hq_113; done) | ((first | replace hq_113 := bnt hq_113 | replace hq_113 := bnf hq_113 | replace hq_113 := bt hq_113 | replace hq_113 := bf hq_113 | replace hq_113 := bt' hq_113 | replace hq_113 := bf' hq_113 | skip); exfalso; omega) | (exact absurd (hs1.symm.trans hq_113) (by decide)) | (exact absurd (hs2.symm.trans hq_113) (by decide)) | (exact absurd (hsj.symm.trans hq_113) (by decide)) | (exact absurd (hsr.symm.trans hq_113) (by decide))
                                                      | ((first | replace hq_113 := bnt hq_113 | replace hq_113 := bnf hq_113 | replace hq_113 := bt hq_113 | replace hq_113 := bf hq_113 | replace hq_113 := bt' hq_113 | replace hq_113 := bf' hq_113 | skip)
                                                         refine al_skip' ⟨_, rfl, .inl hb_113⟩ rfl ?_
                                                         refine al_skip' ⟨_, rfl, .inl (up_m rfl hb_113)⟩ rfl ?_
                                                         refine al_ro' (ro_pickT (u2 rfl hb_113) ev_c) trivial rfl ?_
                                                         refine al_ro' (ro_move up_h) trivial rfl ?_
                                                         refine al_skip' ⟨_, rfl, .inl up_h⟩ rfl ?_
                                                         refine al_skip' ⟨_, rfl, .inl (up_m rfl up_h)⟩ rfl ?_
                                                         refine al_ro' (ro_pickT (u2 rfl up_h) ev_c) trivial rfl ?_
                                                         refine al_ro' (ro_move up_h) trivial rfl ?_
                                                         refine al_skip' ⟨_, rfl, .inl up_h⟩ rfl ?_
                                                         refine al_skip' ⟨_, rfl, .inl (up_m rfl up_h)⟩ rfl ?_
                                                         refine al_skip' ⟨_, rfl, .inl (u2 rfl up_h)⟩ rfl ?_
                                                         refine al_skip' ⟨_, rfl, .inl (up_m rfl (u2 rfl up_h))⟩ rfl ?_
                                                         refine al_skip' ⟨_, rfl, .inl (u4 rfl up_h)⟩ rfl ?_
                                                         refine al_skip' ⟨_, rfl, .inl (up_m rfl (u4 rfl up_h))⟩ rfl ?_
                                                         refine al_skip' ⟨_, rfl, .inl (u2 rfl (u4 rfl up_h))⟩ rfl ?_
                                                         refine al_ro' (ro_pickT (up_m rfl (u2 rfl (u4 rfl up_h))) ev_c) trivial rfl ?_
                                                         refine al_ro' (ro_move up_h) trivial rfl ?_
                                                         refine al_skip' ⟨_, rfl, .inl up_h⟩ rfl ?_
                                                         refine al_skip' ⟨_, rfl, .inl (up_m rfl up_h)⟩ rfl ?_
                                                         refine al_skip' ⟨_, rfl, .inl (u2 rfl up_h)⟩ rfl ?_
                                                         refine al_skip' ⟨_, rfl, .inl (up_m rfl (u2 rfl up_h))⟩ rfl ?_
                                                         refine al_skip' ⟨_, rfl, .inl (u4 rfl up_h)⟩ rfl ?_
                                                         refine al_skip' ⟨_, rfl, .inl (up_m rfl (u4 rfl up_h))⟩ rfl ?_
                                                         refine al_skip' ⟨_, rfl, .inl (u2 rfl (u4 rfl up_h))⟩ rfl ?_
                                                         refine al_ro' (ro_pickT (up_m rfl (u2 rfl (u4 rfl up_h))) ev_c) trivial rfl ?_
                                                         refine al_ro' (ro_move up_h) trivial rfl ?_
                                                         refine al_skip' ⟨_, rfl, .inl up_h⟩ rfl ?_
                                                         refine al_skip' ⟨_, rfl, .inl (up_m rfl up_h)⟩ rfl ?_
                                                         refine al_skip' ⟨_, rfl, .inl (u2 rfl up_h)⟩ rfl ?_
                                                         refine al_skip' ⟨_, rfl, .inl (up_m rfl (u2 rfl up_h))⟩ rfl ?_
                                                         refine al_skip' ⟨_, rfl, .inl (u4 rfl up_h)⟩ rfl ?_
                                                         refine al_skip' ⟨_, rfl, .inl (up_m rfl (u4 rfl up_h))⟩ rfl ?_
                                                         refine al_skip' ⟨_, rfl, .inl (u2 rfl (u4 rfl up_h))⟩ rfl ?_
                                                         refine al_skip' ⟨_, rfl, .inl (up_m rfl (u2 rfl (u4 rfl up_h)))⟩ rfl ?_
                                                         refine al_skip' ⟨_, rfl, .inl (u8 rfl up_h)⟩ rfl ?_
                                                         refine al_ro' (ro_pickT (up_m rfl (u8 rfl up_h)) ev_c) trivial rfl ?_
                                                         refine al_end (fun e_114 he_114 => ?_)
                                                         have s15_114 := ef 15 he_114 (up_m rfl (u2 rfl (u4 rfl (u16 rfl (u16 rfl s15_111)))))
                                                         have s17_114 := ef 17 he_114 (up_m rfl (u2 rfl (u4 rfl (u16 rfl (u16 rfl s17_111)))))
                                                         have s19_114 := ef 19 he_114 (up_m rfl (u2 rfl (u4 rfl (u16 rfl (u16 rfl s19_111)))))
                                                         have s170_114 := ef 170 he_114 up_h
                                                         clear he_114
                                                         refine then_n ⟨(s170_114).trans (by (first | rfl | (refine avb ?_; simp; omega))), (s15_114).trans (s15_111).symm, (s17_114).trans (s17_111).symm, (s19_114).trans (s19_111).symm, rfl⟩)
                                                    · skip
                                                      first
                                                      | (cases hq_113; done) | ((first | replace hq_113 := bnt hq_113 | replace hq_113 := bnf hq_113 | replace hq_113 := bt hq_113 | replace hq_113 := bf hq_113 | replace hq_113 := bt' hq_113 | replace hq_113 := bf' hq_113 | skip); exfalso; omega) | (exact absurd (hs1.symm.trans hq_113) (by decide)) | (exact absurd (hs2.symm.trans hq_113) (by decide)) | (exact absurd (hsj.symm.trans hq_113) (by decide)) | (exact absurd (hsr.symm.trans hq_113) (by decide))
                                                      | ((first | replace hq_113 := bnt hq_113 | replace hq_113 := bnf hq_113 | replace hq_113 := bt hq_113 | replace hq_113 := bf hq_113 | replace hq_113 := bt' hq_113 | replace hq_113 := bf' hq_113 | skip)
                                                         refine al_ro' (ro_move (up_m rfl (u2 rfl s18_111))) ⟨_, rfl, hb_113⟩ rfl ?_
                                                         refine al_ro' (ro_neq up_h ev_c) ⟨_, rfl, (up_m rfl hb_113)⟩ rfl ?_
                                                         refine al_ro' (ro_pickF (u2 rfl hb_113) up_h) trivial rfl ?_
                                                         refine al_ro' (ro_move up_h) trivial rfl ?_
                                                         refine al_case up_h (fun hb_115 hq_115 => ?_) (fun hb_115 hq_115 => ?_)
                                                         · skip
                                                           first
                                                           | (cases hq_115; done) | ((first | replace hq_115 := bnt hq_115 | replace hq_115 := bnf hq_115 | replace hq_115 := bt hq_115 | replace hq_115 := bf hq_115 | replace hq_115 := bt' hq_115 | replace hq_115 := bf' hq_115 | skip); exfalso; omega) | (exact absurd (hs1.symm.trans hq_115) (by decide)) | (exact absurd (hs2.symm.trans hq_115) (by decide)) | (exact absurd (hsj.symm.trans hq_115) (by decide)) | (exact absurd (hsr.symm.trans hq_115) (by decide))
                                                           | ((first | replace hq_115 := bnt hq_115 | replace hq_115 := bnf hq_115 | replace hq_115 := bt hq_115 | replace hq_115 := bf hq_115 | replace hq_115 := bt' hq_115 | replace hq_115 := bf' hq_115 | skip)
                                                              refine al_skip' ⟨_, rfl, .inl hb_115⟩ rfl ?_
                                                              refine al_skip' ⟨_, rfl, .inl (up_m rfl hb_115)⟩ rfl ?_
                                                              refine al_ro' (ro_pickT (u2 rfl hb_115) ev_c) trivial rfl ?_
                                                              refine al_ro' (ro_move up_h) trivial rfl ?_
                                                              refine al_skip' ⟨_, rfl, .inl up_h⟩ rfl ?_
                                                              refine al_skip' ⟨_, rfl, .inl (up_m rfl up_h)⟩ rfl ?_
                                                              refine al_skip' ⟨_, rfl, .inl (u2 rfl up_h)⟩ rfl ?_
                                                              refine al_skip' ⟨_, rfl, .inl (up_m rfl (u2 rfl up_h))⟩ rfl ?_
                                                              refine al_skip' ⟨_, rfl, .inl (u4 rfl up_h)⟩ rfl ?_
                                                              refine al_skip' ⟨_, rfl, .inl (up_m rfl (u4 rfl up_h))⟩ rfl ?_
                                                              refine al_skip' ⟨_, rfl, .inl (u2 rfl (u4 rfl up_h))⟩ rfl ?_
                                                              refine al_ro' (ro_pickT (up_m rfl (u2 rfl (u4 rfl up_h))) ev_c) trivial rfl ?_
                                                              refine al_ro' (ro_move up_h) trivial rfl ?_
                                                              refine al_skip' ⟨_, rfl, .inl up_h⟩ rfl ?_
                                                              refine al_skip' ⟨_, rfl, .inl (up_m rfl up_h)⟩ rfl ?_
                                                              refine al_skip' ⟨_, rfl, .inl (u2 rfl up_h)⟩ rfl ?_
                                                              refine al_skip' ⟨_, rfl, .inl (up_m rfl (u2 rfl up_h))⟩ rfl ?_
                                                              refine al_skip' ⟨_, rfl, .inl (u4 rfl up_h)⟩ rfl ?_
                                                              refine al_skip' ⟨_, rfl, .inl (up_m rfl (u4 rfl up_h))⟩ rfl ?_
                                                              refine al_skip' ⟨_, rfl, .inl (u2 rfl (u4 rfl up_h))⟩ rfl ?_
                                                              refine al_ro' (ro_pickT (up_m rfl (u2 rfl (u4 rfl up_h))) ev_c) trivial rfl ?_
                                                              refine al_ro' (ro_move up_h) trivial rfl ?_
                                                              refine al_skip' ⟨_, rfl, .inl up_h⟩ rfl ?_
                                                              refine al_skip' ⟨_, rfl, .inl (up_m rfl up_h)⟩ rfl ?_
                                                              refine al_skip' ⟨_, rfl, .inl (u2 rfl up_h)⟩ rfl ?_
                                                              refine al_skip' ⟨_, rfl, .inl (up_m rfl (u2 rfl up_h))⟩ rfl ?_
                                                              refine al_skip' ⟨_, rfl, .inl (u4 rfl up_h)⟩ rfl ?_
                                                              refine al_skip' ⟨_, rfl, .inl (up_m rfl (u4 rfl up_h))⟩ rfl ?_
                                                              refine al_skip' ⟨_, rfl, .inl (u2 rfl (u4 rfl up_h))⟩ rfl ?_
                                                              refine al_skip' ⟨_, rfl, .inl (up_m rfl (u2 rfl (u4 rfl up_h)))⟩ rfl ?_
                                                              refine al_skip' ⟨_, rfl, .inl (u8 rfl up_h)⟩ rfl ?_
                                                              refine al_ro' (ro_pickT (up_m rfl (u8 rfl up_h)) ev_c) trivial rfl ?_
                                                              refine al_end (fun e_116 he_116 => ?_)
                                                              have s15_116 := ef 15 he_116 (up_m rfl (u2 rfl (u4 rfl (u16 rfl (u16 rfl s15_111)))))
                                                              have s17_116 := ef 17 he_116 (up_m rfl (u2 rfl (u4 rfl (u16 rfl (u16 rfl s17_111)))))
                                                              have s19_116 := ef 19 he_116 (up_m rfl (u2 rfl (u4 rfl (u16 rfl (u16 rfl s19_111)))))
                                                              have s170_116 := ef 170 he_116 up_h
                                                              clear he_116
                                                              refine then_n ⟨(s170_116).trans (by (first | rfl | (refine avb ?_; simp; omega))), (s15_116).trans (s15_111).symm, (s17_116).trans (s17_111).symm, (s19_116).trans (s19_111).symm, rfl⟩)
                                                         · skip
                                                           first
                                                           | (cases hq_115; done) | ((first | replace hq_115 := bnt hq_115 | replace hq_115 := bnf hq_115 | replace hq_115 := bt hq_115 | replace hq_115 := bf hq_115 | replace hq_115 := bt' hq_115 | replace hq_115 := bf' hq_115 | skip); exfalso; omega) | (exact absurd (hs1.symm.trans hq_115) (by decide)) | (exact absurd (hs2.symm.trans hq_115) (by decide)) | (exact absurd (hsj.symm.trans hq_115) (by decide)) | (exact absurd (hsr.symm.trans hq_115) (by decide))
                                                           | ((first | replace hq_115 := bnt hq_115 | replace hq_115 := bnf hq_115 | replace hq_115 := bt hq_115 | replace hq_115 := bf hq_115 | replace hq_115 := bt' hq_115 | replace hq_115 := bf' hq_115 | skip)
                                                              refine al_ro' (ro_move (up_m rfl (u2 rfl (u4 rfl s20_111)))) ⟨_, rfl, hb_115⟩ rfl ?_
                                                              refine al_ro' (ro_neq up_h ev_c) ⟨_, rfl, (up_m rfl hb_115)⟩ rfl ?_
                                                              refine al_ro' (ro_pickF (u2 rfl hb_115) up_h) trivial rfl ?_
                                                              refine al_ro' (ro_move up_h) trivial rfl ?_
                                                              refine al_case up_h (fun hb_117 hq_117 => ?_) (fun hb_117 hq_117 => ?_)
                                                              · skip
                                                                first
                                                                | (cases hq_117; done) | ((first | replace hq_117 := bnt hq_117 | replace hq_117 := bnf hq_117 | replace hq_117 := bt hq_117 | replace hq_117 := bf hq_117 | replace hq_117 := bt' hq_117 | replace hq_117 := bf' hq_117 | skip); exfalso; omega) | (exact absurd (hs1.symm.trans hq_117) (by decide)) | (exact absurd (hs2.symm.trans hq_117) (by decide)) | (exact absurd (hsj.symm.trans hq_117) (by decide)) | (exact absurd (hsr.symm.trans hq_117) (by decide))
                                                                | ((first | replace hq_117 := bnt hq_117 | replace hq_117 := bnf hq_117 | replace hq_117 := bt hq_117 | replace hq_117 := bf hq_117 | replace hq_117 := bt' hq_117 | replace hq_117 := bf' hq_117 | skip)
                                                                   refine al_skip' ⟨_, rfl, .inl hb_117⟩ rfl ?_
                                                                   refine al_skip' ⟨_, rfl, .inl (up_m rfl hb_117)⟩ rfl ?_
                                                                   refine al_skip' ⟨_, rfl, .inl (u2 rfl hb_117)⟩ rfl ?_
                                                                   refine al_skip' ⟨_, rfl, .inl (up_m rfl (u2 rfl hb_117))⟩ rfl ?_
                                                                   refine al_skip' ⟨_, rfl, .inl (u4 rfl hb_117)⟩ rfl ?_
                                                                   refine al_skip' ⟨_, rfl, .inl (up_m rfl (u4 rfl hb_117))⟩ rfl ?_
                                                                   refine al_skip' ⟨_, rfl, .inl (u2 rfl (u4 rfl hb_117))⟩ rfl ?_
                                                                   refine al_ro' (ro_pickT (up_m rfl (u2 rfl (u4 rfl hb_117))) ev_c) trivial rfl ?_
                                                                   refine al_ro' (ro_move up_h) trivial rfl ?_
                                                                   refine al_skip' ⟨_, rfl, .inl up_h⟩ rfl ?_
                                                                   refine al_skip' ⟨_, rfl, .inl (up_m rfl up_h)⟩ rfl ?_
                                                                   refine al_skip' ⟨_, rfl, .inl (u2 rfl up_h)⟩ rfl ?_
                                                                   refine al_skip' ⟨_, rfl, .inl (up_m rfl (u2 rfl up_h))⟩ rfl ?_
                                                                   refine al_skip' ⟨_, rfl, .inl (u4 rfl up_h)⟩ rfl ?_
                                                                   refine al_skip' ⟨_, rfl, .inl (up_m rfl (u4 rfl up_h))⟩ rfl ?_
                                                                   refine al_skip' ⟨_, rfl, .inl (u2 rfl (u4 rfl up_h))⟩ rfl ?_
                                                                   refine al_ro' (ro_pickT (up_m rfl (u2 rfl (u4 rfl up_h))) ev_c) trivial rfl ?_
                                                                   refine al_ro' (ro_move up_h) trivial rfl ?_
                                                                   refine al_skip' ⟨_, rfl, .inl up_h⟩ rfl ?_
                                                                   refine al_skip' ⟨_, rfl, .inl (up_m rfl up_h)⟩ rfl ?_
                                                                   refine al_skip' ⟨_, rfl, .inl (u2 rfl up_h)⟩ rfl ?_
                                                                   refine al_skip' ⟨_, rfl, .inl (up_m rfl (u2 rfl up_h))⟩ rfl ?_
                                                                   refine al_skip' ⟨_, rfl, .inl (u4 rfl up_h)⟩ rfl ?_
                                                                   refine al_skip' ⟨_, rfl, .inl (up_m rfl (u4 rfl up_h))⟩ rfl ?_
                                                                   refine al_skip' ⟨_, rfl, .inl (u2 rfl (u4 rfl up_h))⟩ rfl ?_
                                                                   refine al_skip' ⟨_, rfl, .inl (up_m rfl (u2 rfl (u4 rfl up_h)))⟩ rfl ?_
                                                                   refine al_skip' ⟨_, rfl, .inl (u8 rfl up_h)⟩ rfl ?_
                                                                   refine al_ro' (ro_pickT (up_m rfl (u8 rfl up_h)) ev_c) trivial rfl ?_
                                                                   refine al_end (fun e_118 he_118 => ?_)
                                                                   have s15_118 := ef 15 he_118 (up_m rfl (u2 rfl (u4 rfl (u16 rfl (u16 rfl s15_111)))))
                                                                   have s17_118 := ef 17 he_118 (up_m rfl (u2 rfl (u4 rfl (u16 rfl (u16 rfl s17_111)))))
                                                                   have s19_118 := ef 19 he_118 (up_m rfl (u2 rfl (u4 rfl (u16 rfl (u16 rfl s19_111)))))
                                                                   have s170_118 := ef 170 he_118 up_h
                                                                   clear he_118
                                                                   refine then_n ⟨(s170_118).trans (by (first | rfl | (refine avb ?_; simp; omega))), (s15_118).trans (s15_111).symm, (s17_118).trans (s17_111).symm, (s19_118).trans (s19_111).symm, rfl⟩)
                                                              · skip
                                                                first
                                                                | (cases hq_117; done) | ((first | replace hq_117 := bnt hq_117 | replace hq_117 := bnf hq_117 | replace hq_117 := bt hq_117 | replace hq_117 := bf hq_117 | replace hq_117 := bt' hq_117 | replace hq_117 := bf' hq_117 | skip); exfalso; omega) | (exact absurd (hs1.symm.trans hq_117) (by decide)) | (exact absurd (hs2.symm.trans hq_117) (by decide)) | (exact absurd (hsj.symm.trans hq_117) (by decide)) | (exact absurd (hsr.symm.trans hq_117) (by decide))
                                                                | ((first | replace hq_117 := bnt hq_117 | replace hq_117 := bnf hq_117 | replace hq_117 := bt hq_117 | replace hq_117 := bf hq_117 | replace hq_117 := bt' hq_117 | replace hq_117 := bf' hq_117 | skip)
                                                                   refine al_ro' (ro_move (up_m rfl (u2 rfl (u8 rfl s15_111)))) ⟨_, rfl, hb_117⟩ rfl ?_
                                                                   refine al_ro' (ro_eq (ro_len_row up_h rfl k42_sl30.1) (by first | (simp only [lnS] <;> rfl) | rfl)) ⟨_, rfl, (up_m rfl hb_117)⟩ rfl ?_
                                                                   refine al_ro' (ro_fld_ptr k42_fl24_1 rfl (up_m rfl (u4 rfl (u8 rfl s2_111)))) ⟨_, rfl, (u2 rfl hb_117)⟩ rfl ?_
                                                                   refine al_ro' (ro_eq (ro_ld_ptr k42_ty22 rfl mo0_50 up_h (by first | exact Nat.le_of_ble_eq_true rfl | omega | (simp only [lnS] <;> omega) | (simp <;> omega))) (by first | (simp only [packA_t, packA_f, iE, bE, setAt, cellsA, Value.cells, map_vc, map_vn, Nat.reduceAdd, qS] <;> rfl) | rfl)) ⟨_, rfl, (up_m rfl (u2 rfl hb_117))⟩ rfl ?_
                                                                   refine al_ro' (ro_eq (ro_len_row up_h rfl k42_sl22.1) (by first | (simp only [lnS] <;> rfl) | rfl)) ⟨_, rfl, (u4 rfl hb_117)⟩ rfl ?_
                                                                   first | (refine al_ro' (ro_add' up_h ev_c ?_) ⟨_, rfl, (up_m rfl (u4 rfl hb_117))⟩ rfl ?_; · (unfold In64; omega)) | refine al_ro' (ro_add up_h ev_c) ⟨_, rfl, (up_m rfl (u4 rfl hb_117))⟩ rfl ?_
                                                                   refine al_ro' (ro_neq (u4 rfl up_h) up_h) ⟨_, rfl, (u2 rfl (u4 rfl hb_117))⟩ rfl ?_
                                                                   refine al_ro' (ro_pickF (up_m rfl (u2 rfl (u4 rfl hb_117))) up_h) trivial rfl ?_
                                                                   refine al_ro' (ro_move up_h) trivial rfl ?_
                                                                   refine al_case up_h (fun hb_119 hq_119 => ?_) (fun hb_119 hq_119 => ?_)
                                                                   · skip
                                                                     first
                                                                     | (cases hq_119; done) | ((first | replace hq_119 := bnt hq_119 | replace hq_119 := bnf hq_119 | replace hq_119 := bt hq_119 | replace hq_119 := bf hq_119 | replace hq_119 := bt' hq_119 | replace hq_119 := bf' hq_119 | skip); exfalso; omega) | (exact absurd (hs1.symm.trans hq_119) (by decide)) | (exact absurd (hs2.symm.trans hq_119) (by decide)) | (exact absurd (hsj.symm.trans hq_119) (by decide)) | (exact absurd (hsr.symm.trans hq_119) (by decide))
                                                                     | ((first | replace hq_119 := bnt hq_119 | replace hq_119 := bnf hq_119 | replace hq_119 := bt hq_119 | replace hq_119 := bf hq_119 | replace hq_119 := bt' hq_119 | replace hq_119 := bf' hq_119 | skip)
                                                                        refine al_skip' ⟨_, rfl, .inl hb_119⟩ rfl ?_
                                                                        refine al_skip' ⟨_, rfl, .inl (up_m rfl hb_119)⟩ rfl ?_
                                                                        refine al_skip' ⟨_, rfl, .inl (u2 rfl hb_119)⟩ rfl ?_
                                                                        refine al_skip' ⟨_, rfl, .inl (up_m rfl (u2 rfl hb_119))⟩ rfl ?_
                                                                        refine al_skip' ⟨_, rfl, .inl (u4 rfl hb_119)⟩ rfl ?_
                                                                        refine al_skip' ⟨_, rfl, .inl (up_m rfl (u4 rfl hb_119))⟩ rfl ?_
                                                                        refine al_skip' ⟨_, rfl, .inl (u2 rfl (u4 rfl hb_119))⟩ rfl ?_
                                                                        refine al_ro' (ro_pickT (up_m rfl (u2 rfl (u4 rfl hb_119))) ev_c) trivial rfl ?_
                                                                        refine al_ro' (ro_move up_h) trivial rfl ?_
                                                                        refine al_skip' ⟨_, rfl, .inl up_h⟩ rfl ?_
                                                                        refine al_skip' ⟨_, rfl, .inl (up_m rfl up_h)⟩ rfl ?_
                                                                        refine al_skip' ⟨_, rfl, .inl (u2 rfl up_h)⟩ rfl ?_
                                                                        refine al_skip' ⟨_, rfl, .inl (up_m rfl (u2 rfl up_h))⟩ rfl ?_
                                                                        refine al_skip' ⟨_, rfl, .inl (u4 rfl up_h)⟩ rfl ?_
                                                                        refine al_skip' ⟨_, rfl, .inl (up_m rfl (u4 rfl up_h))⟩ rfl ?_
                                                                        refine al_skip' ⟨_, rfl, .inl (u2 rfl (u4 rfl up_h))⟩ rfl ?_
                                                                        refine al_skip' ⟨_, rfl, .inl (up_m rfl (u2 rfl (u4 rfl up_h)))⟩ rfl ?_
                                                                        refine al_skip' ⟨_, rfl, .inl (u8 rfl up_h)⟩ rfl ?_
                                                                        refine al_ro' (ro_pickT (up_m rfl (u8 rfl up_h)) ev_c) trivial rfl ?_
                                                                        refine al_end (fun e_120 he_120 => ?_)
                                                                        have s15_120 := ef 15 he_120 (up_m rfl (u2 rfl (u4 rfl (u16 rfl (u16 rfl s15_111)))))
                                                                        have s17_120 := ef 17 he_120 (up_m rfl (u2 rfl (u4 rfl (u16 rfl (u16 rfl s17_111)))))
                                                                        have s19_120 := ef 19 he_120 (up_m rfl (u2 rfl (u4 rfl (u16 rfl (u16 rfl s19_111)))))
                                                                        have s170_120 := ef 170 he_120 up_h
                                                                        clear he_120
                                                                        refine then_n ⟨(s170_120).trans (by (first | rfl | (refine avb ?_; simp; omega))), (s15_120).trans (s15_111).symm, (s17_120).trans (s17_111).symm, (s19_120).trans (s19_111).symm, rfl⟩)
                                                                   · skip
                                                                     first
                                                                     | (cases hq_119; done) | ((first | replace hq_119 := bnt hq_119 | replace hq_119 := bnf hq_119 | replace hq_119 := bt hq_119 | replace hq_119 := bf hq_119 | replace hq_119 := bt' hq_119 | replace hq_119 := bf' hq_119 | skip); exfalso; omega) | (exact absurd (hs1.symm.trans hq_119) (by decide)) | (exact absurd (hs2.symm.trans hq_119) (by decide)) | (exact absurd (hsj.symm.trans hq_119) (by decide)) | (exact absurd (hsr.symm.trans hq_119) (by decide))
                                                                     | ((first | replace hq_119 := bnt hq_119 | replace hq_119 := bnf hq_119 | replace hq_119 := bt hq_119 | replace hq_119 := bf hq_119 | replace hq_119 := bt' hq_119 | replace hq_119 := bf' hq_119 | skip)
                                                                        refine al_ro' (ro_move (u4 rfl (u16 rfl s17_111))) ⟨_, rfl, hb_119⟩ rfl ?_
                                                                        refine al_ro' (ro_eq (ro_len_row up_h rfl k42_sl30.1) (by first | (simp only [lnS] <;> rfl) | rfl)) ⟨_, rfl, (up_m rfl hb_119)⟩ rfl ?_
                                                                        refine al_ro' (ro_fld_ptr k42_fl24_1 rfl (u2 rfl (u4 rfl (u16 rfl s3_111)))) ⟨_, rfl, (u2 rfl hb_119)⟩ rfl ?_
                                                                        refine al_ro' (ro_eq (ro_ld_ptr k42_ty22 rfl mo1_50 up_h (by first | exact Nat.le_of_ble_eq_true rfl | omega | (simp only [lnS] <;> omega) | (simp <;> omega))) (by first | (simp only [packA_t, packA_f, iE, bE, setAt, cellsA, Value.cells, map_vc, map_vn, Nat.reduceAdd, qS] <;> rfl) | rfl)) ⟨_, rfl, (up_m rfl (u2 rfl hb_119))⟩ rfl ?_
                                                                        refine al_ro' (ro_eq (ro_len_row up_h rfl k42_sl22.1) (by first | (simp only [lnS] <;> rfl) | rfl)) ⟨_, rfl, (u4 rfl hb_119)⟩ rfl ?_
                                                                        first | (refine al_ro' (ro_add' up_h ev_c ?_) ⟨_, rfl, (up_m rfl (u4 rfl hb_119))⟩ rfl ?_; · (unfold In64; omega)) | refine al_ro' (ro_add up_h ev_c) ⟨_, rfl, (up_m rfl (u4 rfl hb_119))⟩ rfl ?_
                                                                        refine al_ro' (ro_neq (u4 rfl up_h) up_h) ⟨_, rfl, (u2 rfl (u4 rfl hb_119))⟩ rfl ?_
                                                                        refine al_ro' (ro_pickF (up_m rfl (u2 rfl (u4 rfl hb_119))) up_h) trivial rfl ?_
                                                                        refine al_ro' (ro_move up_h) trivial rfl ?_
                                                                        refine al_case up_h (fun hb_121 hq_121 => ?_) (fun hb_121 hq_121 => ?_)
                                                                        · skip
                                                                          first
                                                                          | (cases hq_121; done) | ((first | replace hq_121 := bnt hq_121 | replace hq_121 := bnf hq_121 | replace hq_121 := bt hq_121 | replace hq_121 := bf hq_121 | replace hq_121 := bt' hq_121 | replace hq_121 := bf' hq_121 | skip); exfalso; omega) | (exact absurd (hs1.symm.trans hq_121) (by decide)) | (exact absurd (hs2.symm.trans hq_121) (by decide)) | (exact absurd (hsj.symm.trans hq_121) (by decide)) | (exact absurd (hsr.symm.trans hq_121) (by decide))
                                                                          | ((first | replace hq_121 := bnt hq_121 | replace hq_121 := bnf hq_121 | replace hq_121 := bt hq_121 | replace hq_121 := bf hq_121 | replace hq_121 := bt' hq_121 | replace hq_121 := bf' hq_121 | skip)
                                                                             refine al_skip' ⟨_, rfl, .inl hb_121⟩ rfl ?_
                                                                             refine al_skip' ⟨_, rfl, .inl (up_m rfl hb_121)⟩ rfl ?_
                                                                             refine al_skip' ⟨_, rfl, .inl (u2 rfl hb_121)⟩ rfl ?_
                                                                             refine al_skip' ⟨_, rfl, .inl (up_m rfl (u2 rfl hb_121))⟩ rfl ?_
                                                                             refine al_skip' ⟨_, rfl, .inl (u4 rfl hb_121)⟩ rfl ?_
                                                                             refine al_skip' ⟨_, rfl, .inl (up_m rfl (u4 rfl hb_121))⟩ rfl ?_
                                                                             refine al_skip' ⟨_, rfl, .inl (u2 rfl (u4 rfl hb_121))⟩ rfl ?_
                                                                             refine al_skip' ⟨_, rfl, .inl (up_m rfl (u2 rfl (u4 rfl hb_121)))⟩ rfl ?_
                                                                             refine al_skip' ⟨_, rfl, .inl (u8 rfl hb_121)⟩ rfl ?_
                                                                             refine al_ro' (ro_pickT (up_m rfl (u8 rfl hb_121)) ev_c) trivial rfl ?_
                                                                             refine al_end (fun e_122 he_122 => ?_)
                                                                             have s15_122 := ef 15 he_122 (up_m rfl (u2 rfl (u4 rfl (u16 rfl (u16 rfl s15_111)))))
                                                                             have s17_122 := ef 17 he_122 (up_m rfl (u2 rfl (u4 rfl (u16 rfl (u16 rfl s17_111)))))
                                                                             have s19_122 := ef 19 he_122 (up_m rfl (u2 rfl (u4 rfl (u16 rfl (u16 rfl s19_111)))))
                                                                             have s170_122 := ef 170 he_122 up_h
                                                                             clear he_122
                                                                             refine then_n ⟨(s170_122).trans (by (first | rfl | (refine avb ?_; simp; omega))), (s15_122).trans (s15_111).symm, (s17_122).trans (s17_111).symm, (s19_122).trans (s19_111).symm, rfl⟩)
                                                                        · skip
                                                                          first
                                                                          | (cases hq_121; done) | ((first | replace hq_121 := bnt hq_121 | replace hq_121 := bnf hq_121 | replace hq_121 := bt hq_121 | replace hq_121 := bf hq_121 | replace hq_121 := bt' hq_121 | replace hq_121 := bf' hq_121 | skip); exfalso; omega) | (exact absurd (hs1.symm.trans hq_121) (by decide)) | (exact absurd (hs2.symm.trans hq_121) (by decide)) | (exact absurd (hsj.symm.trans hq_121) (by decide)) | (exact absurd (hsr.symm.trans hq_121) (by decide))
                                                                          | ((first | replace hq_121 := bnt hq_121 | replace hq_121 := bnf hq_121 | replace hq_121 := bt hq_121 | replace hq_121 := bf hq_121 | replace hq_121 := bt' hq_121 | replace hq_121 := bf' hq_121 | skip)
                                                                             refine al_ro' (ro_move (up_m rfl (u4 rfl (u8 rfl (u16 rfl s19_111))))) ⟨_, rfl, hb_121⟩ rfl ?_
                                                                             refine al_ro' (ro_eq (ro_len_row up_h rfl k42_sl30.1) (by first | (simp only [lnS] <;> rfl) | rfl)) ⟨_, rfl, (up_m rfl hb_121)⟩ rfl ?_
                                                                             refine al_ro' (ro_move (up_m rfl (u2 rfl (u4 rfl (u8 rfl (u16 rfl s15_111)))))) ⟨_, rfl, (u2 rfl hb_121)⟩ rfl ?_
                                                                             refine al_ro' (ro_eq (ro_len_row up_h rfl k42_sl30.1) (by first | (simp only [lnS] <;> rfl) | rfl)) ⟨_, rfl, (up_m rfl (u2 rfl hb_121))⟩ rfl ?_
                                                                             refine al_ro' (ro_fld_ptr k42_fl24_1 rfl (up_m rfl (u16 rfl (u16 rfl s3_111)))) ⟨_, rfl, (u4 rfl hb_121)⟩ rfl ?_
                                                                             refine al_ro' (ro_eq (ro_ld_ptr k42_ty22 rfl mo1_50 up_h (by first | exact Nat.le_of_ble_eq_true rfl | omega | (simp only [lnS] <;> omega) | (simp <;> omega))) (by first | (simp only [packA_t, packA_f, iE, bE, setAt, cellsA, Value.cells, map_vc, map_vn, Nat.reduceAdd, qS] <;> rfl) | rfl)) ⟨_, rfl, (up_m rfl (u4 rfl hb_121))⟩ rfl ?_
                                                                             refine al_ro' (ro_eq (ro_len_row up_h rfl k42_sl22.1) (by first | (simp only [lnS] <;> rfl) | rfl)) ⟨_, rfl, (u2 rfl (u4 rfl hb_121))⟩ rfl ?_
                                                                             first | (refine al_ro' (ro_add' (up_m rfl (u2 rfl up_h)) up_h ?_) ⟨_, rfl, (up_m rfl (u2 rfl (u4 rfl hb_121)))⟩ rfl ?_; · (unfold In64; omega)) | refine al_ro' (ro_add (up_m rfl (u2 rfl up_h)) up_h) ⟨_, rfl, (up_m rfl (u2 rfl (u4 rfl hb_121)))⟩ rfl ?_
                                                                             refine al_ro' (ro_neq (u2 rfl (u4 rfl up_h)) up_h) ⟨_, rfl, (u8 rfl hb_121)⟩ rfl ?_
                                                                             refine al_ro' (ro_pickF (up_m rfl (u8 rfl hb_121)) up_h) trivial rfl ?_
                                                                             refine al_end (fun e_123 he_123 => ?_)
                                                                             have s15_123 := ef 15 he_123 (up_m rfl (u2 rfl (u4 rfl (u16 rfl (u16 rfl s15_111)))))
                                                                             have s17_123 := ef 17 he_123 (up_m rfl (u2 rfl (u4 rfl (u16 rfl (u16 rfl s17_111)))))
                                                                             have s19_123 := ef 19 he_123 (up_m rfl (u2 rfl (u4 rfl (u16 rfl (u16 rfl s19_111)))))
                                                                             have s170_123 := ef 170 he_123 up_h
                                                                             clear he_123
                                                                             refine then_n ⟨(s170_123).trans (by (first | rfl | (refine avb ?_; simp; omega))), (s15_123).trans (s15_111).symm, (s17_123).trans (s17_111).symm, (s19_123).trans (s19_111).symm, rfl⟩)))))
                                                  · rintro e_112 _ ⟨s170_112, k15_112, k17_112, k19_112, rfl⟩
                                                    have s15_112 := k15_112.trans s15_111
                                                    have s17_112 := k17_112.trans s17_111
                                                    have s19_112 := k19_112.trans s19_111
                                                    refine aw_case s170_112 (fun hq_124 => ?_) (fun hq_124 => ?_)
                                                    · skip
                                                      first
                                                      | (cases hq_124; done) | ((first | replace hq_124 := bnt hq_124 | replace hq_124 := bnf hq_124 | replace hq_124 := bt hq_124 | replace hq_124 := bf hq_124 | replace hq_124 := bt' hq_124 | replace hq_124 := bf' hq_124 | skip); exfalso; omega) | (exact absurd (hs1.symm.trans hq_124) (by decide)) | (exact absurd (hs2.symm.trans hq_124) (by decide)) | (exact absurd (hsj.symm.trans hq_124) (by decide)) | (exact absurd (hsr.symm.trans hq_124) (by decide))
                                                      | ((first | replace hq_124 := bnt hq_124 | replace hq_124 := bnf hq_124 | replace hq_124 := bt hq_124 | replace hq_124 := bf hq_124 | replace hq_124 := bt' hq_124 | replace hq_124 := bf' hq_124 | skip)
                                                         refine aw_seq ?_
                                                         refine aw_text (by kernel_rfl) ?_
                                                         refine al_ro' (ro_assign ev_c) trivial rfl ?_
                                                         refine al_end (fun e_125 he_125 => ?_)
                                                         have s4_125 := ef 4 he_125 up_h
                                                         clear he_125 s15_112 s170_112 s17_112 s19_112
                                                         refine then_n ?_
                                                         refine aw_ret ?_
                                                         refine then_r ?_
                                                         refine ret1 (.inr rfl) (by kernel_rfl) (resV_tmp s4_125) (.ro _ rfl) ?_
                                                         clear s4_125 mo6_50 mo5_50 mo4_50 mo3_50 mo2_50 mo1_50 mo0_50 ml_50
                                                         (first | rfl | exact congrArg (fun b => bA b) hs1 | exact congrArg (fun b => bA b) hs2 | (simp [hs1, hs2]; done) | (rw [hja] at *; exfalso; omega) | (exfalso; omega)))
                                                    · skip
                                                      first
                                                      | (cases hq_124; done) | ((first | replace hq_124 := bnt hq_124 | replace hq_124 := bnf hq_124 | replace hq_124 := bt hq_124 | replace hq_124 := bf hq_124 | replace hq_124 := bt' hq_124 | replace hq_124 := bf' hq_124 | skip); exfalso; omega) | (exact absurd (hs1.symm.trans hq_124) (by decide)) | (exact absurd (hs2.symm.trans hq_124) (by decide)) | (exact absurd (hsj.symm.trans hq_124) (by decide)) | (exact absurd (hsr.symm.trans hq_124) (by decide))
                                                      | ((first | replace hq_124 := bnt hq_124 | replace hq_124 := bnf hq_124 | replace hq_124 := bt hq_124 | replace hq_124 := bf hq_124 | replace hq_124 := bt' hq_124 | replace hq_124 := bf' hq_124 | skip)
                                                         refine aw_skip ?_
                                                         refine then_n ?_
                                                         refine aw_seq ?_
                                                         refine aw_seq ?_
                                                         refine aw_text (by kernel_rfl) ?_
                                                         refine al_ro' (ro_assign ev_c) trivial rfl ?_
                                                         refine al_end (fun e_126 he_126 => ?_)
                                                         have s15_126 := ef 15 he_126 (up_m rfl s15_112)
                                                         have s17_126 := ef 17 he_126 (up_m rfl s17_112)
                                                         have s19_126 := ef 19 he_126 (up_m rfl s19_112)
                                                         have s21_126 := ef 21 he_126 up_h
                                                         clear he_126 s15_112 s170_112 s17_112 s19_112
                                                         refine then_n ?_
                                                         refine aw_block ?_
                                                         fail "STOPPED loop 2 has no relation")))))))))
end Go.Proofs.Ytelgkjekpcfffaa
