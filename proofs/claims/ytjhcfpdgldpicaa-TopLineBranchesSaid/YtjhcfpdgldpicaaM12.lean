/- Texts of this claim, one behind the other: lemmas for the statement. -/
import Derived.Test.YtjhcfpdgldpicaaM11
import Derived.Test.YtjhcfpdgldpicaaA51
import Derived.Test.YtjhcfpdgldpicaaT0
import Derived.Test.YtjhcfpdgldpicaaM10
set_option linter.unusedSimpArgs false
set_option linter.unusedVariables false
namespace Go.Proofs.Ytjhcfpdgldpicaa
open Go Go.RowKit Go.Proofs
def updN {α : Type} [Inhabited α] (f : Nat → α → α) (xs : List α) : Nat → List α
 | 0 => xs
 | n + 1 => (updN f xs n).set n (f n ((updN f xs n).getD n default))
theorem updN_len {α : Type} [Inhabited α] (f : Nat → α → α) (xs : List α) : ∀ n : Nat, (updN f xs n).length = xs.length
 | 0 => rfl
 | n + 1 => by simp only [updN, List.length_set]; exact updN_len f xs n
theorem updN_ge {α : Type} [Inhabited α] (f : Nat → α → α) (xs : List α) : ∀ {n i : Nat}, n ≤ i → (updN f xs n).getD i default = xs.getD i default
 | 0, _, _ => rfl
 | n + 1, i, h => by
  simp only [updN]
  rw [List.getD_eq_getElem?_getD, List.getElem?_set_ne (by omega), ← List.getD_eq_getElem?_getD]
  exact updN_ge f xs (by omega)
theorem updN_lt {α : Type} [Inhabited α] (f : Nat → α → α) (xs : List α) : ∀ {n i : Nat}, i < n → i < xs.length → (updN f xs n).getD i default = f i (xs.getD i default)
 | n + 1, i, h, hl => by
  simp only [updN]
  by_cases hi : n = i
  ·subst hi
   rw [List.getD_eq_getElem?_getD, List.getElem?_set_self (by rw [updN_len]; exact hl), updN_ge f xs (Nat.le_refl _)]; rfl
  ·rw [List.getD_eq_getElem?_getD, List.getElem?_set_ne hi, ← List.getD_eq_getElem?_getD]
   exact updN_lt f xs (by omega) hl
structure Hsw where
 nam : ByteArray
 fst : Int
 own : Nat
 deriving Inhabited
def hwE (z : Hsw) : List AV := [.v (.string z.nam), .v (.int .i64 z.fst), .own z.own]
def hwF (zs : List Hsw) (q : Nat) : Nat := (zs.getD q default).own
def acF (ss : List Swi) (q : Nat) : List (List AV) := (ss.getD q default).acr.map iE
def zsN : Nat → List Swi → List Hsw
 | _, [] => []
 | b, s :: ss => ⟨s.nam, s.fst, b⟩ :: zsN (b + 1) ss
theorem zsN_len : ∀ (b : Nat) (ss : List Swi), (zsN b ss).length = ss.length
 | _, [] => rfl
 | b, s :: ss => by simp [zsN, zsN_len (b + 1) ss]
theorem zsN_at : ∀ (b : Nat) (ss : List Swi) {q : Nat}, q < ss.length → (zsN b ss).getD q default = ⟨(ss.getD q default).nam, (ss.getD q default).fst, b + q⟩
 | _, [], q, h => absurd h (by simp)
 | b, s :: ss, 0, h => rfl
 | b, s :: ss, q + 1, h => by
  have := zsN_at (b + 1) ss (q := q) (by simpa using h)
  simp only [zsN, List.getD_cons_succ]
  rw [this, show b + 1 + q = b + (q + 1) by omega]
def hRn (ρ : Nat → Nat) (z : Hsw) : Hsw := ⟨z.nam, z.fst, ρ z.own⟩
theorem hwE_rn (ρ : Nat → Nat) (zs : List Hsw) : (zs.map hwE).map (rn.rnL ρ) = (zs.map (hRn ρ)).map hwE := by simp [hwE, hRn, rn.rnL, rn]
theorem zsN_rn {ρ : Nat → Nat} {b c : Nat} : ∀ (ss : List Swi) (h : ∀ q, q < ss.length → ρ (b + q) = c + q), (zsN b ss).map (hRn ρ) = zsN c ss := by
 intro ss
 induction ss generalizing b c with
 | nil => intro _; rfl
 | cons s ss ih =>
  intro h
  simp only [zsN, List.map_cons]
  rw [ih (b := b + 1) (c := c + 1) fun q hq => by have := h (q + 1) (by simpa using hq); rw [show b + 1 + q = b + (q + 1) by omega, this]; omega]
  have h0 := h 0 (by simp)
  simp only [Nat.add_zero] at h0
  rw [hRn, h0]
def fmO (e : Nat) (ss : List Swi) : List Ob := ss.map fun s => .row e 1 (s.acr.map iE)
theorem fmO_at {e : Nat} {ss : List Swi} {q : Nat} (h : q < ss.length) : (fmO e ss)[q]? = some (.row e 1 (acF ss q)) := by
 simp [fmO, acF, List.getElem?_eq_getElem h, List.getD_eq_getElem?_getD]
theorem fam_new {mem m : List Ob} {e n B k : Nat} {ss : List Swi} {pre : List Ob} {ρ : Nat → Nat} (hm : m = ups [] ((pre ++ fmO e ss).map (Ob.rn ρ)) mem) (hl : mem.length = n) (hB : B = n + pre.length) (hk : k < B) :
 Fam m (hwF (zsN B ss)) ss.length ss.length k e 1 (acF ss) B (B + ss.length) k ∧ m.length = B + ss.length := by
 have hf : ∀ q, q < ss.length → hwF (zsN B ss) q = B + q := fun q hq => by unfold hwF; rw [zsN_at B ss hq]
 have hml : m.length = B + ss.length := by subst hm; simp [ups, fmO]; omega
 refine ⟨⟨fun q hq _ => ?_, fun a b ha hb hab => ?_, fun q hq => ?_, fun q hq => ?_, fun q hq => ?_, fun q hq _ => ?_⟩, hml⟩
 ·rw [hf q hq]
  subst hm
  simp only [ups, List.map_append]
  rw [List.getElem?_append_right (by omega), List.getElem?_append_right (by rw [List.length_map]; omega), List.getElem?_map, show B + q - mem.length - (pre.map (Ob.rn ρ)).length = q by rw [List.length_map]; omega, fmO_at hq]
  rfl
 ·rw [hf a ha, hf b hb] at hab; omega
 ·rw [hf q hq]; omega
 ·rw [hf q hq]; omega
 ·rw [hf q hq]; omega
 ·rw [hf q hq]; omega
theorem zsN_rho (n : Nat) (ss : List Swi) : ((zsN 4 ss).map hwE).map (rn.rnL (rho [] n)) = (zsN (n + 3) ss).map hwE := by
 rw [hwE_rn, zsN_rn ss fun q hq => ?_]
 rw [show 4 + q = ([] : List Nat).length + (3 + q) + 1 by simp; omega, rho_n]; omega
theorem EmbL.append {ρ : Nat → Nat} {mem : List Ob} {ts ts' : List Nat} {os os' : List Ob} (h : EmbL ρ mem ts os) (h' : EmbL ρ mem ts' os') : EmbL ρ mem (ts ++ ts') (os ++ os') := by
 induction h with
 | nil => exact h'
 | ob h1 _ ih => exact .ob h1 ih
 | gone _ ih => exact .gone ih
theorem emb_fam {ρ : Nat → Nat} {mem : List Ob} {f : Nat → Nat} {n k e w : Nat} {r : Nat → List (List AV)} {lo hi : Nat} (hF : Fam mem f n n k e w r lo hi k) : ∀ (c : Nat), c ≤ n → EmbL ρ mem ((List.range c).map f) ((List.range c).map fun q => .row e w (r q)) := by
 intro c
 induction c with
 | zero => intro _; exact .nil
 | succ c ih =>
  intro hc
  rw [List.range_succ, List.map_append, List.map_append]
  exact (ih (by omega)).append (.ob (hF.at_ c (by omega) (by omega)) .nil)
theorem fmO_range (e : Nat) (ss : List Swi) : fmO e ss = (List.range ss.length).map fun q => .row e 1 (acF ss q) := by
 apply List.ext_getElem?
 intro q
 rw [List.getElem?_map]
 by_cases hq : q < ss.length
 ·rw [fmO_at hq, List.getElem?_range hq]; rfl
 ·rw [List.getElem?_eq_none (by simp [fmO]; omega), List.getElem?_eq_none (by simp; omega)]; rfl
theorem emb_sw {ρ : Nat → Nat} {mem : List Ob} {f : Nat → Nat} {k e : Nat} {ss : List Swi} {lo hi : Nat} (hF : Fam mem f ss.length ss.length k e 1 (acF ss) lo hi k) : EmbL ρ mem ((List.range ss.length).map f) (fmO e ss) := by
 rw [fmO_range]; exact emb_fam hF _ (Nat.le_refl _)
theorem fam_nodup {mem : List Ob} {f : Nat → Nat} {n k e w : Nat} {r : Nat → List (List AV)} {lo hi a b : Nat} (hF : Fam mem f n n k e w r lo hi k) (ha : a < lo) (hb : b < lo) (hab : a ≠ b) (hak : a ≠ k) (hbk : b ≠ k) : ([a, b, k] ++ (List.range n).map f).Nodup := by
 refine List.nodup_append.2 ⟨by simp [hab, hak, hbk], ?_, ?_⟩
 ·refine List.pairwise_map.2 (List.Pairwise.imp_of_mem (fun {x y} hx hy hxy he => ?_) List.nodup_range)
  exact hxy (hF.inj x y (List.mem_range.1 hx) (List.mem_range.1 hy) he)
 ·intro x hx y hy hxy
  obtain ⟨q, hq, rfl⟩ := List.mem_map.1 hy
  have hq := List.mem_range.1 hq
  have h1 := hF.lo q hq
  have h2 := hF.ne q hq
  simp only [List.mem_cons, List.not_mem_nil, or_false] at hx
  omega
structure CpZ (ss : List Swi) (zs : List Hsw) (n : Nat) : Prop where
 len : zs.length = n
 at_ : ∀ q, q < n → (zs.getD q default).nam = (ss.getD q default).nam ∧ (zs.getD q default).fst = (ss.getD q default).fst
theorem CpZ.zero (ss : List Swi) : CpZ ss [] 0 := ⟨rfl, fun q h => absurd h (by omega)⟩
theorem CpZ.more {ss : List Swi} {zs : List Hsw} {n : Nat} (h : CpZ ss zs n) (j : Nat) : CpZ ss (zs ++ [⟨(ss.getD n default).nam, (ss.getD n default).fst, j⟩]) (n + 1) := by
 refine ⟨by simp [h.len], fun q hq => ?_⟩
 by_cases hqn : q = n
 ·subst hqn
  rw [List.getD_eq_getElem?_getD, List.getElem?_append_right (by rw [h.len]; omega), h.len]
  simp
 ·rw [List.getD_eq_getElem?_getD, List.getElem?_append_left (by rw [h.len]; omega), ← List.getD_eq_getElem?_getD]
  exact h.at_ q (by omega)
theorem hwF_app {zs : List Hsw} {z : Hsw} {q : Nat} (h : q < zs.length) : hwF (zs ++ [z]) q = hwF zs q := by
 unfold hwF; rw [List.getD_eq_getElem?_getD, List.getElem?_append_left h, ← List.getD_eq_getElem?_getD]
theorem hwF_last {zs : List Hsw} {z : Hsw} {n : Nat} (h : zs.length = n) : hwF (zs ++ [z]) n = z.own := by
 subst h; unfold hwF; rw [List.getD_eq_getElem?_getD, List.getElem?_append_right (Nat.le_refl _)]; simp
theorem zs_ret {ss : List Swi} {zs : List Hsw} (h : CpZ ss zs ss.length) (a b c N : Nat) : zs = (zsN 4 ss).map (hRn (rho ([a, b, c] ++ (List.range ss.length).map (hwF zs)) N)) := by
 apply List.ext_getElem (by simp [zsN_len, h.len])
 intro q h1 h2
 have hq : q < ss.length := by rw [← h.len]; exact h1
 have e1 : zs[q] = zs.getD q default := by rw [List.getD_eq_getElem?_getD, List.getElem?_eq_getElem h1]; rfl
 have e2 : ((zsN 4 ss).map (hRn (rho ([a, b, c] ++ (List.range ss.length).map (hwF zs)) N)))[q] = hRn (rho ([a, b, c] ++ (List.range ss.length).map (hwF zs)) N) ((zsN 4 ss).getD q default) := by
  rw [List.getElem_map, List.getD_eq_getElem?_getD, List.getElem?_eq_getElem (by rw [zsN_len]; exact hq)]; rfl
 rw [e2, e1, zsN_at 4 ss hq]
 have e3 : rho ([a, b, c] ++ (List.range ss.length).map (hwF zs)) N (4 + q) = hwF zs q := by
  rw [show 4 + q = 3 + q + 1 by omega]
  refine rho_t ?_
  rw [List.getElem?_append_right (by simp), List.getElem?_map, show 3 + q - [a, b, c].length = q by simp, List.getElem?_range hq]; rfl
 unfold hRn
 rw [e3]
 obtain ⟨n1, n2⟩ := h.at_ q hq
 unfold hwF
 rw [← n1, ← n2]
theorem one_hwE (a : ByteArray) (b : Int) (j : Nat) : [[AV.v (.string a), AV.v (.int .i64 b), AV.own j]] = [(⟨a, b, j⟩ : Hsw)].map hwE := rfl
theorem hwF_r (zs : List Hsw) (q : Nat) : (zs.getD q default).own = hwF zs q := rfl
theorem y84_sl24 : SlIs Try.prog 24 47 3 48 (.agg #[.string ByteArray.empty, .int .i64 0, .slice none 0 0]) := ⟨by kernel_rfl, by kernel_rfl, by kernel_rfl⟩
theorem y84_sl40 : SlIs Try.prog 40 3 1 8 (.int .i64 0) := ⟨by kernel_rfl, by kernel_rfl, by kernel_rfl⟩
theorem y84_ty22 : TyIs Try.prog 22 false 1 := ⟨by kernel_rfl, by kernel_rfl⟩
theorem y84_ty23 : TyIs Try.prog 23 false 1 := ⟨by kernel_rfl, by kernel_rfl⟩
theorem y84_ty24 : TyIs Try.prog 24 false 1 := ⟨by kernel_rfl, by kernel_rfl⟩
theorem y84_ty26 : TyIs Try.prog 26 true 4 := ⟨by kernel_rfl, by kernel_rfl⟩
theorem y84_ty40 : TyIs Try.prog 40 false 1 := ⟨by kernel_rfl, by kernel_rfl⟩
theorem y84_ty47 : TyIs Try.prog 47 true 3 := ⟨by kernel_rfl, by kernel_rfl⟩
theorem y84_ty9 : TyIs Try.prog 9 false 1 := ⟨by kernel_rfl, by kernel_rfl⟩
theorem iE_plain (l : List Int) : (l.map iE).flatten.all plainA = true := by
 induction l with
 | nil => rfl
 | cons p l ih => simp only [List.map_cons, List.flatten_cons, List.all_append, ih, Bool.and_true]; rfl
set_option maxRecDepth 100000 in
set_option maxHeartbeats 4000000 in
theorem cloneI_row (xs : List Int) (h0 : xs ≠ []) (hl : xs.length ≤ 1000000) : FnRow Try.prog 52 [.row 1 (xs.map iE)] 3 1 (xs.map iE) := by
 refine fnRow_of (fn := Try.f52) 8 (by kernel_rfl) rfl (by kernel_rfl) (Nat.le_of_ble_eq_true rfl) (by exact iE_plain xs) ?_
 intro e_0 m_0 hA hm_0
 have s0_0 : evA e_0 (.tmp 0) = _ := hA 0 _ rfl
 have ml_0 : m_0.length = 0 := by rw [hm_0]; rfl
 clear hA hm_0
 refine aw_seq <| at_ <| ar (ro_assign ev_c) rfl <| ae1 (up_m rfl s0_0) ?_; clear s0_0; intro e_1 s0_1
 refine then_n <| aw_seq <| aw_seq <| at_ <| ar (ro_move s0_1) rfl <| ar (ro_rowne y84_sl40 qgq40 up_h ev_c (by exact map_ne h0)) rfl ?_
 refine ae2 (u2 rfl s0_1) up_h ?_; clear s0_1; intro e_2 s0_2 s4_2
 refine then_n <| aw_false s4_2 <| aw_skip <| then_n <| aw_seq <| at_ <| ar (ro_lit0 y84_sl40) rfl <| ar (ro_move (up_m rfl s0_2)) rfl <| al_stm (st_ape (by simpa using h0) (by exact iE_plain xs) ml_0 y84_sl40 rfl (up_m rfl up_h) up_h (by simp only [lnS] <;> omega)) trivial rfl (fun m_4 hm_4 => ?_)
 have mo0_4 := m_push hm_4 ml_0
 have ml_4 := m_push_l hm_4 ml_0
 have ml_4 : _ = 1 := ml_4
 clear hm_4
 refine ar (ro_assign up_h) rfl <| ae1 up_h ?_; clear s0_2 s4_2; intro e_5 s2_5
 refine then_n <| aw_ret <| retRow (.inr rfl) (by kernel_rfl) s2_5 mo0_4 ?_
 first | rfl | (simp; done)
set_option maxRecDepth 100000 in
set_option maxHeartbeats 4000000 in
theorem copied_fam (l : Lin) (hl : Sho l) (hf : Ful l) : FnMu Try.prog [] 28 [lnA l] [] (.agg [.v (.string l.nam), .own 1, .own 2, .own 3]) ([.row 66 4 (l.js.map jnE), .row 69 2 (l.bs.map beE), .rowH 47 3 ((zsN 4 l.ss).map hwE)] ++ fmO 3 l.ss) := by
 obtain ⟨h1, h2, h3, h4, h5⟩ := id hl
 refine fnMu_of (fn := Try.f28) [] 34 (by kernel_rfl) rfl (by kernel_rfl) (Nat.le_of_ble_eq_true rfl) ?_
 intro e_0 m_0 hA hm_0
 have s0_0 : evA e_0 (.tmp 0) = _ := hA 0 _ rfl
 have ml_0 : m_0.length = 1 := by rw [hm_0]; rfl
 have mo0_0 := m_in0 hm_0
 clear hA hm_0
 refine aw_seq <| at_ <| al_stm (st_box s0_0 rfl ml_0) trivial rfl (fun m_1 hm_1 => ?_)
 have mo1_1 := m_push hm_1 ml_0
 have mo0_1 := m_push_o hm_1 mo0_0
 have ml_1 := m_push_l hm_1 ml_0
 have ml_1 : _ = 2 := ml_1
 clear hm_1 mo0_0
 refine al_stm (st_alloc qaz26 rfl ml_1) trivial rfl (fun m_2 hm_2 => ?_)
 have mo2_2 := m_push hm_2 ml_1
 simp only [pS, Value.cells, Nat.reduceAdd, swE, hwE, one_hwE, app_m] at mo2_2
 have mo1_2 := m_push_o hm_2 mo1_1
 have mo0_2 := m_push_o hm_2 mo0_1
 have ml_2 := m_push_l hm_2 ml_1
 have ml_2 : _ = 3 := ml_2
 clear hm_2 mo1_1 mo0_1
 refine ae2 (up_m rfl up_h) up_h ?_; clear s0_0; intro e_3 s1_3 s2_3
 refine then_n <| aw_seq <| aw_drawK 10 3 ml_2 (by kernel_rfl) (by kernel_rfl) (by kernel_rfl) (by kernel_rfl) (fun m_4 hm_4 => ?_)
 have mo2_4 := m_room_o hm_4 mo2_2
 have mo1_4 := m_room_o hm_4 mo1_2
 have mo0_4 := m_room_o hm_4 mo0_2
 have mo3_4 : m_4[3]? = _ := m_room_g hm_4 ml_2 0 rfl rfl
 have mo4_4 : m_4[4]? = _ := m_room_g hm_4 ml_2 1 rfl rfl
 have mo5_4 : m_4[5]? = _ := m_room_g hm_4 ml_2 2 rfl rfl
 have ml_4 : _ = 6 := m_room_l (K := 3) hm_4 ml_2
 clear hm_4 mo2_2 mo1_2 mo0_2 ml_2
 refine dh_ro (fun M_ hM_ => (ro_fld_ptr qfl26_0 rfl s1_3)) trivial ?_
 refine dh_ld (1) (fun M_ hM_ => (ro_eq (ro_ld_ptr y84_ty9 rfl (agr hM_ mo1_4 (by simp)) up_h (nle rfl)) (by simp only [pS, Value.cells, Nat.reduceAdd, swE, hwE, one_hwE, app_m] <;> rfl))) trivial trivial ?_
 refine dh_ro (fun M_ hM_ => (ro_fld_ptr qfl26_1 rfl (u2 rfl s1_3))) trivial ?_
 refine dh_ld (1) (fun M_ hM_ => (ro_eq (ro_ld_ptr y84_ty22 rfl (agr hM_ mo1_4 (by simp)) up_h (nle rfl)) (by simp only [pS, Value.cells, Nat.reduceAdd, swE, hwE, one_hwE, app_m] <;> rfl))) trivial trivial ?_
 refine dh_nw (3) (fun M_ hM_ => (nw_callrow (evL_cons up_h evL_nil) rfl (cloneJ_row _ hf.1 h2) qhcf50)) trivial mo3_4 rfl trivial ⟨.inl (by simp <;> omega), ⟨.inl (by simp <;> omega), trivial⟩⟩ (fun m_5 hm_5 => ?_)
 have mo3_5 := m_set hm_5 mo3_4
 have mo2_5 := m_set_o hm_5 mo2_4 (by decide)
 have mo1_5 := m_set_o hm_5 mo1_4 (by decide)
 have mo0_5 := m_set_o hm_5 mo0_4 (by decide)
 have mo4_5 := m_set_o hm_5 mo4_4 (by decide)
 have mo5_5 := m_set_o hm_5 mo5_4 (by decide)
 have ml_5 := m_set_l hm_5 ml_4
 clear hm_5 mo2_4 mo1_4 mo0_4 mo3_4 mo4_4 mo5_4
 refine dh_ro (fun M_ hM_ => (ro_fld_ptr qfl26_2 rfl (up_m rfl (u4 rfl s1_3)))) trivial ?_
 refine dh_ld (1) (fun M_ hM_ => (ro_eq (ro_ld_ptr y84_ty23 rfl (agr hM_ mo1_5 (by simp)) up_h (nle rfl)) (by simp only [pS, Value.cells, Nat.reduceAdd, swE, hwE, one_hwE, app_m] <;> rfl))) trivial ⟨.inl (by simp <;> omega), trivial⟩ ?_
 refine dh_nw (4) (fun M_ hM_ => (nw_callrow (evL_cons up_h evL_nil) rfl (cloneB_row _ hf.2.1 h3) qhcf51)) trivial mo4_5 rfl ⟨.inl (by simp <;> omega), trivial⟩ ⟨.inl (by simp <;> omega), ⟨.inl (by simp <;> omega), ⟨.inl (by simp <;> omega), ⟨.inl (by simp <;> omega), trivial⟩⟩⟩⟩ (fun m_6 hm_6 => ?_)
 have mo4_6 := m_set hm_6 mo4_5
 have mo3_6 := m_set_o hm_6 mo3_5 (by decide)
 have mo2_6 := m_set_o hm_6 mo2_5 (by decide)
 have mo1_6 := m_set_o hm_6 mo1_5 (by decide)
 have mo0_6 := m_set_o hm_6 mo0_5 (by decide)
 have mo5_6 := m_set_o hm_6 mo5_5 (by decide)
 have ml_6 := m_set_l hm_6 ml_5
 clear hm_6 mo3_5 mo2_5 mo1_5 mo0_5 mo4_5 mo5_5
 refine dh_ro (fun M_ hM_ => (ro_build (evP_cons (u2 rfl (u4 rfl up_h)) (evP_cons (up_m rfl (u2 rfl up_h)) (evP_cons up_h evP_nil))) qbz26 qbu26 qbp26 rfl)) trivial ?_
 refine dh_nw (5) (fun M_ hM_ => (nw_alloc qaz26 rfl)) trivial mo5_6 rfl ⟨.inl (by simp <;> omega), ⟨.inl (by simp <;> omega), trivial⟩⟩ ⟨.inl (by simp <;> omega), ⟨.inl (by simp <;> omega), ⟨.inl (by simp <;> omega), ⟨.inl (by simp <;> omega), ⟨.inl (by simp <;> omega), trivial⟩⟩⟩⟩⟩ (fun m_7 hm_7 => ?_)
 have mo5_7 := m_set hm_7 mo5_6
 simp only [pS, Value.cells, Nat.reduceAdd, swE, hwE, one_hwE, app_m] at mo5_7
 have mo4_7 := m_set_o hm_7 mo4_6 (by decide)
 have mo3_7 := m_set_o hm_7 mo3_6 (by decide)
 have mo2_7 := m_set_o hm_7 mo2_6 (by decide)
 have mo1_7 := m_set_o hm_7 mo1_6 (by decide)
 have mo0_7 := m_set_o hm_7 mo0_6 (by decide)
 have ml_7 := m_set_l hm_7 ml_6
 clear hm_7 mo4_6 mo3_6 mo2_6 mo1_6 mo0_6 mo5_6
 refine dh_nil rfl ?_
 refine al_stm (st_storeO up_h (up_m rfl up_h) rfl (oneL_c rfl (oneL_o mo3_7 (oneL_o mo4_7 (oneL_c rfl oneL_nil)))) mo5_7 qsz26 rfl (nle rfl)) trivial rfl (fun m_8 hm_8 => ?_)
 have mo5_8 := m_set hm_8 mo5_7
 simp only [pS, Value.cells, Nat.reduceAdd, swE, hwE, one_hwE, app_m] at mo5_8
 have mo4_8 := m_set_o hm_8 mo4_7 (by decide)
 have mo3_8 := m_set_o hm_8 mo3_7 (by decide)
 have mo2_8 := m_set_o hm_8 mo2_7 (by decide)
 have mo1_8 := m_set_o hm_8 mo1_7 (by decide)
 have mo0_8 := m_set_o hm_8 mo0_7 (by decide)
 have ml_8 := m_set_l hm_8 ml_7
 clear hm_8 mo5_7 mo4_7 mo3_7 mo2_7 mo1_7 mo0_7
 refine ae3 (up_n (u2 rfl (u8 rfl s1_3))) (up_n (u2 rfl (u8 rfl s2_3))) (up_n up_h) ?_; clear s1_3 s2_3; intro e_9 s1_9 s2_9 s3_9
 refine then_n <| aw_seq <| aw_seq <| at_ <| ar (ro_fld_ptr qfl26_3 rfl s1_9) rfl <| ar (ro_eq (ro_ld_ptr y84_ty24 rfl mo1_8 up_h (nle rfl)) (by simp only [pS, Value.cells, Nat.reduceAdd, swE, hwE, one_hwE, app_m] <;> rfl)) rfl ?_
 refine ar (ro_eq (ro_len_row up_h rfl y84_sl24.1) (by simp only [lnS] <;> rfl)) rfl ?_
 refine ar (ro_move ev_c) rfl <| ae5 (u4 rfl s2_9) (u4 rfl s3_9) (u2 rfl up_h) (up_m rfl up_h) up_h ?_; clear s1_9 s2_9 s3_9; intro e_10 s2_10 s3_10 s16_10 s17_10 s18_10
 refine then_n <| aw_block <| aw_adoptC 47 3 3 mo5_8 rfl ml_8 (fun m0_11 m_11 h0_11 h1_11 => ?_)
 have mp6_11 := m_push h0_11 ml_8
 have mo6_11 := m_set_o h1_11 mp6_11 (by decide)
 have mp5_11 := m_push_o h0_11 mo5_8
 have mo5_11 := m_set h1_11 mp5_11
 simp only [List.set_cons_zero, List.set_cons_succ] at mo5_11
 have mp4_11 := m_push_o h0_11 mo4_8
 have mo4_11 := m_set_o h1_11 mp4_11 (by decide)
 have mp3_11 := m_push_o h0_11 mo3_8
 have mo3_11 := m_set_o h1_11 mp3_11 (by decide)
 have mp2_11 := m_push_o h0_11 mo2_8
 have mo2_11 := m_set_o h1_11 mp2_11 (by decide)
 have mp1_11 := m_push_o h0_11 mo1_8
 have mo1_11 := m_set_o h1_11 mp1_11 (by decide)
 have mp0_11 := m_push_o h0_11 mo0_8
 have mo0_11 := m_set_o h1_11 mp0_11 (by decide)
 have mq_11 := m_push_l h0_11 ml_8
 have ml_11 : _ = 7 := m_set_l h1_11 mq_11
 clear h0_11 h1_11 mq_11 mp6_11 mp5_11 mp4_11 mp3_11 mp2_11 mp1_11 mp0_11
 refine aw_toH mo6_11 (fun m_12 hm_12 => ?_)
 have mo6_12 := m_set hm_12 mo6_11
 have mo5_12 := m_set_o hm_12 mo5_11 (by decide)
 have mo4_12 := m_set_o hm_12 mo4_11 (by decide)
 have mo3_12 := m_set_o hm_12 mo3_11 (by decide)
 have mo2_12 := m_set_o hm_12 mo2_11 (by decide)
 have mo1_12 := m_set_o hm_12 mo1_11 (by decide)
 have mo0_12 := m_set_o hm_12 mo0_11 (by decide)
 have ml_12 := m_set_l hm_12 ml_11
 clear hm_12
 refine aw_loop (S := (Nat × Int × List Hsw)) (fun s e mem => match s with | ⟨k, i, zs⟩ => (evA e (.tmp 18) = .v (.int .i64 i)) ∧ (evA e (.tmp 2) = evA e_10 (.tmp 2)) ∧ (evA e (.tmp 3) = evA e_10 (.tmp 3)) ∧ (evA e (.tmp 16) = evA e_10 (.tmp 16)) ∧ (evA e (.tmp 17) = evA e_10 (.tmp 17)) ∧ (mem[5]? = some (.box 26 [.v (.string l.nam), .own 3, .own 4, .own k])) ∧ (mem[k]? = some (.rowH 47 3 (zs.map hwE))) ∧ (mem[4]? = m_12[4]?) ∧ (mem[3]? = m_12[3]?) ∧ (mem[2]? = m_12[2]?) ∧ (mem[1]? = m_12[1]?) ∧ (mem[0]? = m_12[0]?) ∧ (∃ n, mem.length = n ∧ 7 ≤ n) ∧ ((6 ≤ k ∧ 0 ≤ i ∧ i ≤ l.ss.length ∧ CpZ l.ss zs i.toNat ∧ ∃ hi, hi ≤ mem.length ∧ Fam mem (hwF zs) i.toNat i.toNat k 3 1 (acF l.ss) 7 hi k))) (fun s => match s with | ⟨k, i, zs⟩ => (l.ss.length - i).toNat) ⟨_, _, []⟩ ⟨s18_10, rfl, rfl, rfl, rfl, mo5_12, mo6_12, rfl, rfl, rfl, rfl, rfl, ⟨_, ml_12, Nat.le_refl _⟩, ?_⟩ ?_
 ·(exact ⟨by omega, by omega, by omega, CpZ.zero _, 7, Nat.le_of_eq (Eq.symm ml_12), Fam.zero _ _ _ _ _ _ _ _ _ _⟩)
 ·rintro ⟨k, i, zs⟩ e_13 m_13 ⟨s18_13, k2_13, k3_13, k16_13, k17_13, mo5_13, mok_13, mk4_13, mk3_13, mk2_13, mk1_13, mk0_13, ⟨n_13, ml_13, hn_13⟩, hinv⟩
  have s2_13 := k2_13.trans s2_10
  have s3_13 := k3_13.trans s3_10
  have s16_13 := k16_13.trans s16_10
  have s17_13 := k17_13.trans s17_10
  have mo4_13 := mk4_13.trans mo4_12
  have mo3_13 := mk3_13.trans mo3_12
  have mo2_13 := mk2_13.trans mo2_12
  have mo1_13 := mk1_13.trans mo1_12
  have mo0_13 := mk0_13.trans mo0_12
  have jlk_13 := m_lt mok_13 ml_13
  (obtain ⟨q1, p1, p2, p3, hi, hh, hF⟩ := hinv; rw [ml_13] at hh; have hso := hl.at i.toNat; have hzl : zs.length ≤ 1000000 := (by rw [p3.len]; omega))
  refine aw_seq <| at_ <| ar (ro_lss s18_13 s17_13) rfl <| ae6 (up_m rfl s2_13) (up_m rfl s3_13) (up_m rfl s16_13) (up_m rfl s17_13) (up_m rfl s18_13) up_h ?_; clear s16_13 s17_13 s18_13 s2_13 s3_13; intro e_14 s2_14 s3_14 s16_14 s17_14 s18_14 s19_14
  refine then_n <| aw_seq <| aw_case s19_14 (fun hq_15 => ?_) (fun hq_15 => ?_)
  ·replace hq_15 := bt hq_15
   refine aw_skip <| then_n <| aw_seq <| aw_block <| aw_seq <| at_ <| ar (ro_eq (ro_ix y84_sl24 s16_14 s18_14 (by omega) (by first | (refine idx_map ?_; first | omega | (simp only [lnS]; omega)) | (refine idx_mapI ?_; first | omega | (simp only [lnS]; omega)) | (refine idx_mapN ?_; first | omega | (simp only [lnS]; omega)) | rfl)) (by simp only [pS, Value.cells, Nat.reduceAdd, swE, hwE, one_hwE, app_m] <;> rfl)) rfl ?_
   refine ar (ro_eq (ro_ld_ref y84_ty47 rfl up_h (nle rfl)) (by simp only [pS, Value.cells, Nat.reduceAdd, swE, hwE, one_hwE, app_m] <;> rfl)) rfl ?_
   refine al_stm (st_alloc qaz47 rfl ml_13) trivial rfl (fun m_16 hm_16 => ?_)
   have mon_13_16 := m_push hm_16 ml_13
   simp only [pS, Value.cells, Nat.reduceAdd, swE, hwE, one_hwE, app_m] at mon_13_16
   have mo5_16 := m_push_o hm_16 mo5_13
   have mok_16 := m_push_o hm_16 mok_13
   have mo4_16 := m_push_o hm_16 mo4_13
   have mo3_16 := m_push_o hm_16 mo3_13
   have mo2_16 := m_push_o hm_16 mo2_13
   have mo1_16 := m_push_o hm_16 mo1_13
   have mo0_16 := m_push_o hm_16 mo0_13
   have moFAM_16 := FamR.m_push_o hm_16 hF
   have ml_16 := m_push_l hm_16 ml_13
   clear hm_16 mo5_13 mok_13 mo4_13 mo3_13 mo2_13 mo1_13 mo0_13 hF
   refine al_stm (st_store up_h (up_m rfl up_h) rfl rfl mon_13_16 qsz47 rfl (nle rfl)) trivial rfl (fun m_17 hm_17 => ?_)
   have mon_13_17 := m_set hm_17 mon_13_16
   simp only [pS, Value.cells, Nat.reduceAdd, swE, hwE, one_hwE, app_m] at mon_13_17
   have mo5_17 := m_set_o hm_17 mo5_16 (by omega)
   have mok_17 := m_set_o hm_17 mok_16 (by omega)
   have mo4_17 := m_set_o hm_17 mo4_16 (by omega)
   have mo3_17 := m_set_o hm_17 mo3_16 (by omega)
   have mo2_17 := m_set_o hm_17 mo2_16 (by omega)
   have mo1_17 := m_set_o hm_17 mo1_16 (by omega)
   have mo0_17 := m_set_o hm_17 mo0_16 (by omega)
   have moFAM_17 := FamR.m_set_o hm_17 moFAM_16 (by omega)
   have ml_17 := m_set_l hm_17 ml_16
   clear hm_17 mon_13_16 mo5_16 mok_16 mo4_16 mo3_16 mo2_16 mo1_16 mo0_16 moFAM_16
   refine ae6 (up_n (up_m rfl (u2 rfl s2_14))) (up_n (up_m rfl (u2 rfl s3_14))) (up_n up_h) (up_n (up_m rfl (u2 rfl s16_14))) (up_n (up_m rfl (u2 rfl s17_14))) (up_n (up_m rfl (u2 rfl s18_14))) ?_; clear s16_14 s17_14 s18_14 s19_14 s2_14 s3_14; intro e_18 s2_18 s3_18 s5_18 s16_18 s17_18 s18_18
   refine then_n <| aw_seq <| at_ <| ar (ro_fld_ptr qfl47_2 rfl s5_18) rfl <| ar (ro_eq (ro_ld_ptr y84_ty40 rfl mon_13_17 up_h (nle rfl)) (by simp only [pS, Value.cells, Nat.reduceAdd, swE, hwE, one_hwE, app_m] <;> rfl)) rfl ?_
   refine al_stm (st_callrow ml_17 (evL_cons up_h evL_nil) rfl (cloneI_row _ (hf.at (by omega)) (hl.at i.toNat).2) qhcf52) trivial rfl (fun m_19 hm_19 => ?_)
   have mon_13_1_19 := m_push hm_19 ml_17
   have mon_13_19 := m_push_o hm_19 mon_13_17
   have mo5_19 := m_push_o hm_19 mo5_17
   have mok_19 := m_push_o hm_19 mok_17
   have mo4_19 := m_push_o hm_19 mo4_17
   have mo3_19 := m_push_o hm_19 mo3_17
   have mo2_19 := m_push_o hm_19 mo2_17
   have mo1_19 := m_push_o hm_19 mo1_17
   have mo0_19 := m_push_o hm_19 mo0_17
   have moFAM_19 := FamR.m_push_o hm_19 moFAM_17
   have ml_19 := m_push_l hm_19 ml_17
   clear hm_19 mon_13_17 mo5_17 mok_17 mo4_17 mo3_17 mo2_17 mo1_17 mo0_17 moFAM_17
   refine ar (ro_fld_ptr qfl47_2 rfl (up_m rfl (u2 rfl s5_18))) rfl <| al_stm (st_store_own up_h (up_m rfl up_h) mon_13_19 mon_13_1_19 qsz40 (nle rfl)) trivial rfl (fun m_20 hm_20 => ?_)
   have mon_13_20 := m_set hm_20 mon_13_19
   simp only [pS, Value.cells, Nat.reduceAdd, swE, hwE, one_hwE, app_m] at mon_13_20
   have mon_13_1_20 := m_set_o hm_20 mon_13_1_19 (by omega)
   have mo5_20 := m_set_o hm_20 mo5_19 (by omega)
   have mok_20 := m_set_o hm_20 mok_19 (by omega)
   have mo4_20 := m_set_o hm_20 mo4_19 (by omega)
   have mo3_20 := m_set_o hm_20 mo3_19 (by omega)
   have mo2_20 := m_set_o hm_20 mo2_19 (by omega)
   have mo1_20 := m_set_o hm_20 mo1_19 (by omega)
   have mo0_20 := m_set_o hm_20 mo0_19 (by omega)
   have moFAM_20 := FamR.m_set_o hm_20 moFAM_19 (by omega)
   have ml_20 := m_set_l hm_20 ml_19
   clear hm_20 mon_13_1_19 mon_13_19 mo5_19 mok_19 mo4_19 mo3_19 mo2_19 mo1_19 mo0_19 moFAM_19
   refine ae6 (up_n (u4 rfl s2_18)) (up_n (u4 rfl s3_18)) (up_n (u4 rfl s5_18)) (up_n (u4 rfl s16_18)) (up_n (u4 rfl s17_18)) (up_n (u4 rfl s18_18)) ?_; clear s16_18 s17_18 s18_18 s2_18 s3_18 s5_18; intro e_21 s2_21 s3_21 s5_21 s16_21 s17_21 s18_21
   refine then_n ?_
   have moFAM_22 := (moFAM_20.more mon_13_1_20 (by omega) (by omega) (by omega) (f' := hwF (zs ++ [⟨(l.ss.getD i.toNat default).nam, (l.ss.getD i.toNat default).fst, n_13 + 1⟩])) (r' := acF l.ss) (fun q hq => hwF_app (by rw [p3.len]; exact hq)) (hwF_last p3.len) (fun _ _ => rfl) rfl)
   refine at_ <| ar (ro_fld_ptr qfl26_3 rfl s3_21) rfl <| ar (ro_eq (ro_ld_ptr y84_ty24 rfl mo5_20 up_h (nle rfl)) (by simp only [pS, Value.cells, Nat.reduceAdd, swE, hwE, one_hwE, app_m] <;> rfl)) rfl ?_
   refine ar (ro_eq (ro_ld_ptr y84_ty47 rfl mon_13_20 (u2 rfl s5_21) (nle rfl)) (by simp only [pS, Value.cells, Nat.reduceAdd, swE, hwE, one_hwE, app_m] <;> rfl)) rfl ?_
   refine al_stm (st_litH y84_sl24 ml_20 (evP_cons up_h evP_nil) rfl rfl rfl) trivial rfl (fun m_23 hm_23 => ?_)
   have mon_13_1_1_23 := m_push hm_23 ml_20
   simp only [pS, Value.cells, Nat.reduceAdd, swE, hwE, one_hwE, app_m] at mon_13_1_1_23
   have mon_13_23 := m_push_o hm_23 mon_13_20
   have mon_13_1_23 := m_push_o hm_23 mon_13_1_20
   have mo5_23 := m_push_o hm_23 mo5_20
   have mok_23 := m_push_o hm_23 mok_20
   have mo4_23 := m_push_o hm_23 mo4_20
   have mo3_23 := m_push_o hm_23 mo3_20
   have mo2_23 := m_push_o hm_23 mo2_20
   have mo1_23 := m_push_o hm_23 mo1_20
   have mo0_23 := m_push_o hm_23 mo0_20
   have moFAM_23 := FamR.m_push_o hm_23 moFAM_22
   have ml_23 := m_push_l hm_23 ml_20
   clear hm_23 mon_13_20 mon_13_1_20 mo5_20 mok_20 mo4_20 mo3_20 mo2_20 mo1_20 mo0_20 moFAM_22
   refine al_stm (st_appH y84_sl24 rfl ml_23 mok_23 mon_13_1_1_23 (u2 rfl up_h) up_h (by first | rfl | (simp [oneH, oneA]; done)) (by simp only [lnS] <;> omega)) trivial rfl (fun m_24 hm_24 => ?_)
   have mon_13_1_1_1_24 := m_swap hm_24 ml_23
   simp only [pS, Value.cells, Nat.reduceAdd, swE, hwE, one_hwE, app_m] at mon_13_1_1_1_24
   have mon_13_1_1_24 := m_swap_o hm_24 mon_13_1_1_23 (by omega)
   have mon_13_24 := m_swap_o hm_24 mon_13_23 (by omega)
   have mon_13_1_24 := m_swap_o hm_24 mon_13_1_23 (by omega)
   have mo5_24 := m_swap_o hm_24 mo5_23 (by omega)
   have mo4_24 := m_swap_o hm_24 mo4_23 (by omega)
   have mo3_24 := m_swap_o hm_24 mo3_23 (by omega)
   have mo2_24 := m_swap_o hm_24 mo2_23 (by omega)
   have mo1_24 := m_swap_o hm_24 mo1_23 (by omega)
   have mo0_24 := m_swap_o hm_24 mo0_23 (by omega)
   have moFAM_24 := FamR.m_swap_o hm_24 moFAM_23 (by omega)
   have ml_24 := m_swap_l hm_24 ml_23
   clear hm_24 mon_13_1_1_23 mon_13_23 mon_13_1_23 mo5_23 mok_23 mo4_23 mo3_23 mo2_23 mo1_23 mo0_23 moFAM_23
   refine ar (ro_fld_ptr qfl26_3 rfl (up_m rfl (u4 rfl s3_21))) rfl <| al_stm (st_storeX up_h (up_m rfl up_h) rfl rfl mo5_24 qsz24 rfl (nle rfl)) trivial rfl (fun m_25 hm_25 => ?_)
   have mo5_25 := m_set hm_25 mo5_24
   simp only [pS, Value.cells, Nat.reduceAdd, swE, hwE, one_hwE, app_m] at mo5_25
   have mon_13_1_1_1_25 := m_set_o hm_25 mon_13_1_1_1_24 (by omega)
   have mon_13_1_1_25 := m_set_o hm_25 mon_13_1_1_24 (by omega)
   have mon_13_25 := m_set_o hm_25 mon_13_24 (by omega)
   have mon_13_1_25 := m_set_o hm_25 mon_13_1_24 (by omega)
   have mo4_25 := m_set_o hm_25 mo4_24 (by decide)
   have mo3_25 := m_set_o hm_25 mo3_24 (by decide)
   have mo2_25 := m_set_o hm_25 mo2_24 (by decide)
   have mo1_25 := m_set_o hm_25 mo1_24 (by decide)
   have mo0_25 := m_set_o hm_25 mo0_24 (by decide)
   have moFAM_25 := FamR.m_set_o hm_25 moFAM_24 (by omega)
   have ml_25 := m_set_l hm_25 ml_24
   clear hm_25 mon_13_1_1_1_24 mon_13_1_1_24 mon_13_24 mon_13_1_24 mo5_24 mo4_24 mo3_24 mo2_24 mo1_24 mo0_24 moFAM_24
   refine ae5 (up_n (u2 rfl (u4 rfl s2_21))) (up_n (u2 rfl (u4 rfl s3_21))) (up_n (u2 rfl (u4 rfl s16_21))) (up_n (u2 rfl (u4 rfl s17_21))) (up_n (u2 rfl (u4 rfl s18_21))) ?_; clear s16_21 s17_21 s18_21 s2_21 s3_21 s5_21; intro e_26 s2_26 s3_26 s16_26 s17_26 s18_26
   refine block_n <| then_n ?_
   have moFAM_27 := (moFAM_25.rek (k' := n_13 + 1 + 1 + 1) (.inl (by omega)))
   refine at_ ?_
   (refine ar (ro_add' s18_26 ev_c ?_) rfl ?_; · (unfold In64; omega))
   refine ar (ro_move up_h) rfl <| ae5 (u2 rfl s2_26) (u2 rfl s3_26) (u2 rfl s16_26) (u2 rfl s17_26) up_h ?_; clear s16_26 s17_26 s18_26 s2_26 s3_26; intro e_28 s2_28 s3_28 s16_28 s17_28 s18_28
   refine then_n <| ⟨⟨_, _, _⟩, ⟨s18_28, (s2_28.trans s2_10.symm), (s3_28.trans s3_10.symm), (s16_28.trans s16_10.symm), (s17_28.trans s17_10.symm), mo5_25, mon_13_1_1_1_25, (mo4_25.trans mo4_12.symm), (mo3_25.trans mo3_12.symm), (mo2_25.trans mo2_12.symm), (mo1_25.trans mo1_12.symm), (mo0_25.trans mo0_12.symm), ⟨_, ml_25, by omega⟩, ?_⟩, ?_⟩
   ·(have hFn := moFAM_27; rw [show i.toNat + 1 = (i + 1).toNat by omega] at hFn; refine ⟨by omega, by omega, by omega, (by rw [show (i + 1).toNat = i.toNat + 1 by omega]; exact p3.more _), _, ?_, hFn⟩; have e_ := ml_25; omega)
   ·((try dsimp only); omega)
  replace hq_15 := bf hq_15
  (have hx : i.toNat = l.ss.length := (by omega); rw [hx] at p3 hF)
  refine aw_exit <| then_x <| then_x <| block_hit <| then_n <| aw_seq <| at_ <| ar (ro_eq (ro_ld_ptr y84_ty26 rfl mo5_13 s3_14 (nle rfl)) (by simp only [pS, Value.cells, Nat.reduceAdd, swE, hwE, one_hwE, app_m] <;> rfl)) rfl ?_
  refine al_stm (st_storeX (up_m rfl s2_14) up_h rfl rfl mo2_13 qsz26 rfl (nle rfl)) trivial rfl (fun m_29 hm_29 => ?_)
  have mo2_29 := m_set hm_29 mo2_13
  simp only [pS, Value.cells, Nat.reduceAdd, swE, hwE, one_hwE, app_m] at mo2_29
  have mo5_29 := m_set_o hm_29 mo5_13 (by decide)
  have mok_29 := m_set_o hm_29 mok_13 (by omega)
  have mo4_29 := m_set_o hm_29 mo4_13 (by decide)
  have mo3_29 := m_set_o hm_29 mo3_13 (by decide)
  have mo1_29 := m_set_o hm_29 mo1_13 (by decide)
  have mo0_29 := m_set_o hm_29 mo0_13 (by decide)
  have moFAM_29 := FamR.m_set_o hm_29 hF (by omega)
  have ml_29 := m_set_l hm_29 ml_13
  clear hm_29 mo5_13 mok_13 mo4_13 mo3_13 mo2_13 mo1_13 mo0_13 hF
  refine ae1 (up_n (up_m rfl s2_14)) ?_; clear s16_14 s17_14 s18_14 s19_14 s2_14 s3_14; intro e_30 s2_30
  refine then_n <| aw_ret <| muQ_eq (.inr rfl) ([3, 4, k] ++ (List.range (l.ss.length)).map (hwF zs)) ml_29 mo0_29 (fam_nodup moFAM_29 (by omega) (by omega) (by omega) (by omega) (by omega)) rfl (resM1 (by kernel_rfl) (resV_cell s2_30 mo2_29 y84_ty26 (nle rfl) (by simp))) (EmbL.append (emb_ob mo3_29 ?_ (emb_ob mo4_29 ?_ (emb_ob mok_29 ?_ .nil))) (emb_sw moFAM_29)) ?_
  all_goals (first | rfl | (simp only [Ob.rn, hwE_rn]; rw [← zs_ret p3 3 4 _ _]))
def jRev (j : Jnt) : Jnt := ⟨-j.acr, j.up, -j.hi, -j.lo⟩
def bRev (b : Bea) : Bea := ⟨b.len, -b.cant⟩
def sRev (n : Nat) (s : Swi) : Swi := ⟨s.nam, n - s.fst - s.acr.length, s.acr.reverse.map (fun x => -x)⟩
def revL (l : Lin) : Lin := ⟨l.nam, l.js.reverse.map jRev, l.bs.reverse.map bRev, l.ss.map (sRev l.js.length)⟩
theorem rev_at {α β : Type} [Inhabited α] [Inhabited β] (f : α → β) (xs : List α) {i : Nat} (h : i < xs.length) : (xs.reverse.map f).getD i default = f (xs.getD (xs.length - 1 - i) default) := by
 rw [List.getD_eq_getElem?_getD, List.getElem?_map, List.getElem?_reverse h, List.getElem?_eq_getElem (by omega), List.getD_eq_getElem?_getD, List.getElem?_eq_getElem (by omega)]; rfl
theorem map_at {α β : Type} [Inhabited α] [Inhabited β] (f : α → β) (xs : List α) {i : Nat} (h : i < xs.length) : (xs.map f).getD i default = f (xs.getD i default) := by
 rw [List.getD_eq_getElem?_getD, List.getElem?_map, List.getD_eq_getElem?_getD, List.getElem?_eq_getElem h]; rfl
theorem revL_js (l : Lin) : (revL l).js.length = l.js.length := by simp [revL]
theorem revL_bs (l : Lin) : (revL l).bs.length = l.bs.length := by simp [revL]
theorem revL_ss (l : Lin) : (revL l).ss.length = l.ss.length := by simp [revL]
theorem revL_j (l : Lin) {i : Nat} (h : i < l.js.length) : (revL l).js.getD i default = jRev (l.js.getD (l.js.length - 1 - i) default) := rev_at jRev l.js h
theorem revL_b (l : Lin) {i : Nat} (h : i < l.bs.length) : (revL l).bs.getD i default = bRev (l.bs.getD (l.bs.length - 1 - i) default) := rev_at bRev l.bs h
theorem revL_s (l : Lin) {i : Nat} (h : i < l.ss.length) : (revL l).ss.getD i default = sRev l.js.length (l.ss.getD i default) := map_at _ l.ss h
theorem beaE_of {b : Bea} (h : 1000 ≤ b.len ∧ b.len ≤ 30000 ∧ -300 ≤ b.cant ∧ b.cant ≤ 300) : beaE b = 0 := by
 have : beaB b = true := by simp only [beaB, smaB, Bool.and_eq_true, withinB_iff]; omega
 unfold beaE; rw [if_pos this]
structure SwOk (l : Lin) (i : Nat) : Prop where
 nam : isNameB (l.ss.getD i default).nam = true
 new : (l.ss.take i).any (fun o => o.nam.toList == (l.ss.getD i default).nam.toList) = false
 len : (l.ss.getD i default).acr.length ≠ 0
 inn : withinB (l.ss.getD i default).fst 1 (l.bs.length - (l.ss.getD i default).acr.length) = true
 sma : (l.ss.getD i default).acr.any (fun n => !smaB n 20000) = false
 cla : (l.ss.take i).any (fun o => claB (l.ss.getD i default) o) = false
theorem swOk_iff {l : Lin} {i : Nat} : swiE l i = 0 ↔ SwOk l i := by
 constructor
 ·intro h1
  unfold swiE at h1
  split at h1
  ·cases h1
  split at h1
  ·cases h1
  split at h1
  ·cases h1
  split at h1
  ·cases h1
  split at h1
  ·cases h1
  split at h1
  ·cases h1
  rename_i g1 g2 g3 g4 g5 g6
  exact ⟨by simpa using g1, by simpa using g2, g3, by simpa using g4, by simpa using g5, by simpa using g6⟩
 ·intro h
  unfold swiE
  rw [if_neg (by rw [h.nam]; decide), if_neg (by rw [h.new]; decide), if_neg h.len, if_neg (by rw [h.inn]; decide), if_neg (by rw [h.sma]; decide), if_neg (by rw [h.cla]; decide)]
theorem cla_rev {n : Nat} {s o : Swi} (hn : n ≤ 1000) (hs : 1 ≤ s.fst ∧ s.fst + s.acr.length ≤ n) (ho : 1 ≤ o.fst ∧ o.fst + o.acr.length ≤ n) : claB (sRev n s) (sRev n o) = claB s o := by
 unfold claB sRev
 simp only [List.length_map, List.length_reverse]
 have w : ∀ x : Int, -10000 ≤ x → x ≤ 10000 → wrap64 x = x := fun x h1 h2 => by unfold wrap64; omega
 rw [w _ (by omega) (by omega), w _ (by omega) (by omega), w _ (by omega) (by omega), w _ (by omega) (by omega)]
 exact decide_eq_decide.2 (by omega)
theorem any_same {α : Type} {p q : α → Bool} {l : List α} (h : ∀ x ∈ l, p x = q x) : l.any p = l.any q := by
 induction l with
 | nil => rfl
 | cons a l ih => rw [List.any_cons, List.any_cons, h a (List.mem_cons_self ..), ih fun x hx => h x (List.mem_cons_of_mem _ hx)]
theorem swi_rev {l : Lin} (h : Rgt l) {i : Nat} (hi : i < l.ss.length) : swiE (revL l) i = 0 := by
 have h0 := swOk_iff.1 (h.sa i hi)
 obtain ⟨w1, w2, w3, w4⟩ := h.swi hi
 have hjs := h.js
 have hn1 := h.n1
 have e : (revL l).ss.getD i default = sRev l.js.length (l.ss.getD i default) := revL_s l hi
 have et : (revL l).ss.take i = (l.ss.take i).map (sRev l.js.length) := by simp [revL, List.map_take]
 rw [swOk_iff]
 refine ⟨?_, ?_, ?_, ?_, ?_, ?_⟩
 ·rw [e]; exact h0.nam
 ·rw [e, et, List.any_map]; exact h0.new
 ·rw [e]; simpa [sRev] using h0.len
 ·rw [e, revL_bs]
  simp only [sRev, List.length_map, List.length_reverse, withinB_iff]
  omega
 ·rw [e]
  simp only [sRev, List.any_map]
  rw [List.any_reverse, ← h0.sma]
  exact any_same fun x _ => by
   show (!smaB (-x) 20000) = !smaB x 20000
   congr 1
   unfold smaB
   rw [Bool.eq_iff_iff, withinB_iff, withinB_iff]; omega
 ·rw [e, et, List.any_map, ← h0.cla]
  refine any_same fun o ho => ?_
  obtain ⟨k, hk, rfl⟩ := List.getElem_of_mem ho
  have hk2 : k < i := by rw [List.length_take] at hk; omega
  obtain ⟨v1, v2, v3, _⟩ := h.swi (i := k) (by omega)
  rw [List.getElem_take]
  rw [List.getD_eq_getElem?_getD, List.getElem?_eq_getElem (by omega)] at v1 v2 v3
  simp only [Option.getD_some] at v1 v2 v3
  exact cla_rev (by omega) ⟨w1, by omega⟩ ⟨v1, by omega⟩
theorem revL_rgt {l : Lin} (h : Rgt l) : Rgt (revL l) :=
 ⟨h.nam, by rw [revL_bs]; exact h.n0, by rw [revL_bs]; exact h.n1, by rw [revL_bs, revL_js]; exact h.js,
  fun j hj => by
   rw [revL_js] at hj
   rw [revL_j l hj]
   have := h.jnt (l.js.length - 1 - j) (by omega)
   exact jntE_of ⟨by simp only [jRev]; omega, by simp only [jRev]; omega, by simp only [jRev]; omega, by simp only [jRev]; omega, by simp only [jRev]; omega⟩,
  fun j hj => by
   rw [revL_bs] at hj
   rw [revL_b l hj]
   have := h.bea (l.bs.length - 1 - j) (by omega)
   exact beaE_of ⟨by simp only [bRev]; omega, by simp only [bRev]; omega, by simp only [bRev]; omega, by simp only [bRev]; omega⟩,
  by rw [revL_ss]; exact h.s1, fun j hj => swi_rev h (by rw [revL_ss] at hj; exact hj)⟩
theorem revL_sho {l : Lin} (h : Sho l) : Sho (revL l) := ⟨h.1, by rw [revL_js]; exact h.2.1, by rw [revL_bs]; exact h.2.2.1, by rw [revL_ss]; exact h.2.2.2.1, fun s hs => by
 obtain ⟨t, ht, rfl⟩ := List.mem_map.1 hs
 have := h.2.2.2.2 t ht
 simpa [sRev] using this⟩
end Go.Proofs.Ytjhcfpdgldpicaa
