/- Texts of this claim, one behind the other: lemmas for the statement. -/
import Derived.Test.YtjhcfpdgldpicaaGreatDoorT0
import Derived.Test.YtjhcfpdgldpicaaGreatDoorM11
import Derived.Test.YtjhcfpdgldpicaaGreatDoorM10
import Derived.Test.YtjhcfpdgldpicaaGreatDoorA15
import Derived.Test.YtjhcfpdgldpicaaGreatDoorM2
set_option linter.unusedSimpArgs false
set_option linter.unusedVariables false
namespace Go.Proofs.YtjhcfpdgldpicaaGreatDoor
open Go Go.RowKit Go.Proofs Go.Shelf Go.Lib
theorem z30_hcf54 : ∀ args w, (callFunc 54 args).run Tryz.prog w = .ok (.enter 54 args) w := fun _ _ => by kernel_rfl
theorem z30_sl22 : SlIs Tryz.prog 22 111 4 32 (.agg #[.int .i64 0, .int .i64 0, .int .i64 0, .bool false]) := ⟨by kernel_rfl, by kernel_rfl, by kernel_rfl⟩
theorem z30_ty111 : TyIs Tryz.prog 111 true 4 := ⟨by kernel_rfl, by kernel_rfl⟩
theorem z30_ty22 : TyIs Tryz.prog 22 false 1 := ⟨by kernel_rfl, by kernel_rfl⟩
theorem z30_ty3 : TyIs Tryz.prog 3 false 1 := ⟨by kernel_rfl, by kernel_rfl⟩
theorem z30_ty4 : TyIs Tryz.prog 4 false 1 := ⟨by kernel_rfl, by kernel_rfl⟩
theorem z30_ty9 : TyIs Tryz.prog 9 false 1 := ⟨by kernel_rfl, by kernel_rfl⟩
theorem c_track : (⟨#[116, 114, 97, 99, 107, 32]⟩ : ByteArray) = bs (wTrack ++ [32]) := rfl
theorem c_piece : (⟨#[112, 105, 101, 99, 101, 32]⟩ : ByteArray) = bs (wPiece ++ [32]) := rfl
theorem c_leave : (⟨#[32, 108, 101, 97, 118, 101]⟩ : ByteArray) = bs ([32] ++ wLeave) := rfl
set_option maxRecDepth 100000 in
set_option maxHeartbeats 4000000 in
theorem rPrint_ok (nm : List UInt8) (ps : List Piece) (hn : nm.length ≤ 1000) (hp : ps.length ≤ 12) (hall : ∀ p ∈ ps, pieceB p = true) : FnOk Tryz.prog 15 [trA (bs nm) ps] (fun q => q = .v (.string (bs (trT nm ps)))) := by
 have hz : (bs nm).size = nm.length := rfl
 have hz2 : ∀ l : List UInt8, (bs l).size = l.length := bs_size
 have g1 : wTrack.length = 5 := rfl
 have g2 : wPiece.length = 5 := rfl
 have g3 : wLeave.length = 5 := rfl
 refine fnOk_of (fn := Tryz.f15) 45 (by kernel_rfl) rfl (by kernel_rfl) (Nat.le_of_ble_eq_true rfl) ?_
 intro e_0 m_0 hA hm_0
 have s0_0 : evA e_0 (.tmp 0) = _ := hA 0 _ rfl
 have ml_0 : m_0.length = 0 := by rw [hm_0]; rfl
 clear hA hm_0
 refine aw_seq <| at_ <| al_stm (st_box s0_0 rfl ml_0) trivial rfl (fun m_1 hm_1 => ?_)
 have mo0_1 := m_push hm_1 ml_0
 have ml_1 := m_push_l hm_1 ml_0
 have ml_1 : _ = 1 := ml_1
 clear hm_1
 refine ar (ro_assign ev_c) rfl <| ae1 (up_m rfl up_h) ?_; clear s0_0; intro e_2 s1_2
 refine then_n <| aw_seq <| at_ <| ar (ro_fld_ptr qfl24_0 rfl s1_2) rfl <| ar (ro_eq (ro_ld_ptr z30_ty9 rfl mo0_1 up_h (nle rfl)) (by simp only [pS, Value.cells, Nat.reduceAdd] <;> rfl)) rfl ?_
 (refine ar (ro_sadd ev_c up_h ?_) rfl ?_; · (first | ((first | unfold In64 | unfold InU64 | unfold InU8); omega) | (simp only [ByteArray.size_append, size_mk, List.length_cons, List.length_nil] <;> omega) | omega))
 (refine ar (ro_sadd up_h ev_c ?_) rfl ?_; · (first | ((first | unfold In64 | unfold InU64 | unfold InU8); omega) | (simp only [ByteArray.size_append, size_mk, List.length_cons, List.length_nil] <;> omega) | omega))
 refine ar (ro_assign up_h) rfl <| ae2 (up_m rfl (u4 rfl s1_2)) up_h ?_; clear s1_2; intro e_3 s1_3 s3_3
 refine then_n <| aw_seq <| aw_seq <| at_ <| ar (ro_assign ev_c) rfl <| ae3 (up_m rfl s1_3) (up_m rfl s3_3) up_h ?_; clear s1_3 s3_3; intro e_4 s1_4 s3_4 s4_4
 refine then_n <| aw_block <| aw_loop (S := (Int × List UInt8)) (fun s e mem => match s with | ⟨i, s⟩ => (evA e (.tmp 4) = .v (.int .i64 i)) ∧ (evA e (.tmp 3) = .v (.string (bs s))) ∧ (evA e (.tmp 1) = evA e_4 (.tmp 1)) ∧ (mem[0]? = m_1[0]?) ∧ (∃ n, mem.length = n ∧ 1 ≤ n) ∧ ((0 ≤ i ∧ i ≤ ps.length ∧ s = trK nm ps i.toNat))) (fun s => match s with | ⟨i, s⟩ => (ps.length - i).toNat) ⟨0, wTrack ++ [32] ++ nm ++ [10]⟩ ⟨s4_4, (s3_4.trans (by first | (simp only [c_track, one_bs, bs_app]; done) | (rw [hstep, ← p3]; simp only [c_piece, c_leave, one_bs, bs_app]; congr 3; simp [pcT, hlv, -List.getD_eq_getElem?_getD]))), rfl, rfl, ⟨_, ml_1, Nat.le_refl _⟩, ?_⟩ ?_
 ·exact ⟨by omega, by omega, by simp [trK, hdT]⟩
 ·rintro ⟨i, s⟩ e_5 m_5 ⟨s4_5, s3_5, k1_5, mk0_5, ⟨n_5, ml_5, hn_5⟩, hinv⟩
  have s1_5 := k1_5.trans s1_4
  have mo0_5 := mk0_5.trans mo0_1
  (obtain ⟨p1, p2, p3⟩ := hinv; have hK1 := trK_len hn hall (k := i.toNat) (by omega); have hs : s.length ≤ 10000 := (by rw [p3]; exact hK1))
  refine aw_seq <| aw_seq <| at_ <| ar (ro_move s4_5) rfl <| ar (ro_fld_ptr qfl24_1 rfl (up_m rfl s1_5)) rfl <| ar (ro_eq (ro_ld_ptr z30_ty22 rfl mo0_5 up_h (nle rfl)) (by simp only [pS, Value.cells, Nat.reduceAdd] <;> rfl)) rfl ?_
  refine ar (ro_eq (ro_len_row up_h rfl z30_sl22.1) (by simp only [lnS] <;> rfl)) rfl ?_
  refine ar (ro_lss (up_m rfl (u2 rfl up_h)) up_h) rfl <| ae4 (up_m rfl (u4 rfl s1_5)) (up_m rfl (u4 rfl s3_5)) (up_m rfl (u4 rfl s4_5)) up_h ?_; clear s1_5 s3_5 s4_5; intro e_6 s1_6 s3_6 s4_6 s14_6
  refine then_n <| aw_case s14_6 (fun hq_7 => ?_) (fun hq_7 => ?_)
  ·replace hq_7 := bt hq_7
   (have hmem : ps[i.toNat]? = some (ps.getD i.toNat default) := (by rw [List.getElem?_eq_getElem (show i.toNat < ps.length by omega), List.getD_eq_getElem?_getD, List.getElem?_eq_getElem (show i.toNat < ps.length by omega)]; rfl); have hpb := hall _ (List.mem_of_getElem? hmem); obtain ⟨c1, c2, c3⟩ := pieceB_bd hpb; have b1 : In64 (ps.getD i.toNat default).len := (by unfold In64; omega); have b2 : In64 (ps.getD i.toNat default).grad := (by unfold In64; omega); have b3 : In64 (ps.getD i.toNat default).lim := (by unfold In64; omega); have d1 := itoa_len b1; have d2 := itoa_len b2; have d3 := itoa_len b3; have z1 : (bs s).size = s.length := rfl; have z2 : (bs (itoa (ps.getD i.toNat default).len)).size = (itoa (ps.getD i.toNat default).len).length := rfl; have z3 : (bs (itoa (ps.getD i.toNat default).grad)).size = (itoa (ps.getD i.toNat default).grad).length := rfl; have z4 : (bs (itoa (ps.getD i.toNat default).lim)).size = (itoa (ps.getD i.toNat default).lim).length := rfl; have hstep := trK_step (nm := nm) hmem; rw [← show (i + 1).toNat = i.toNat + 1 by omega] at hstep)
   refine aw_skip <| then_n <| aw_seq <| aw_block <| aw_seq <| at_ <| ar (ro_fld_ptr qfl24_1 rfl s1_6) rfl <| ar (ro_eq (ro_ld_ptr z30_ty22 rfl mo0_5 up_h (nle rfl)) (by simp only [pS, Value.cells, Nat.reduceAdd] <;> rfl)) rfl ?_
   refine ar (ro_move (u2 rfl s4_6)) rfl <| ar (ro_eq (ro_ix z30_sl22 (up_m rfl up_h) up_h (by omega) (by first | (refine idx_map ?_; first | omega | (simp only [lnS]; omega)) | (refine idx_mapI ?_; first | omega | (simp only [lnS]; omega)) | (refine idx_mapN ?_; first | omega | (simp only [lnS]; omega)) | rfl)) (by rfl)) rfl ?_
   refine ar (ro_eq (ro_ld_ref z30_ty111 rfl up_h (nle rfl)) (by simp only [pS, Value.cells, Nat.reduceAdd] <;> rfl)) rfl ?_
   refine al_stm (st_alloc qaz111 rfl ml_5) trivial rfl (fun m_8 hm_8 => ?_)
   have mon_5_8 := m_push hm_8 ml_5
   simp only [pS, Value.cells, Nat.reduceAdd] at mon_5_8
   have mo0_8 := m_push_o hm_8 mo0_5
   have ml_8 := m_push_l hm_8 ml_5
   clear hm_8 mo0_5
   refine al_stm (st_store up_h (up_m rfl up_h) rfl rfl mon_5_8 qsz111 rfl (nle rfl)) trivial rfl (fun m_9 hm_9 => ?_)
   have mon_5_9 := m_set hm_9 mon_5_8
   simp only [pS, Value.cells, Nat.reduceAdd] at mon_5_9
   have mo0_9 := m_set_o hm_9 mo0_8 (by omega)
   have ml_9 := m_set_l hm_9 ml_8
   clear hm_9 mon_5_8 mo0_8
   refine ae4 (up_n (u2 rfl (u4 rfl s1_6))) (up_n (u2 rfl (u4 rfl s3_6))) (up_n (u2 rfl (u4 rfl s4_6))) (up_n up_h) ?_; clear s14_6 s1_6 s3_6 s4_6; intro e_10 s1_10 s3_10 s4_10 s5_10
   refine then_n <| aw_seq <| aw_draw 17 (by kernel_rfl) (by kernel_rfl) (by kernel_rfl) (by kernel_rfl) ?_
   refine dr (ro_move s3_10) rfl ?_
   (refine dr (ro_sadd up_h ev_c ?_) rfl ?_; · (first | ((first | unfold In64 | unfold InU64 | unfold InU8); omega) | (simp only [ByteArray.size_append, size_mk, List.length_cons, List.length_nil] <;> omega) | omega))
   refine dr (ro_fld_ptr qfl111_0 rfl (u2 rfl s5_10)) rfl <| dr (ro_eq (ro_ld_ptr z30_ty3 rfl mon_5_9 up_h (nle rfl)) (by simp only [pS, Value.cells, Nat.reduceAdd] <;> rfl)) rfl ?_
   refine dr (ro_call (evL_cons up_h evL_nil) rfl (decimal_ok (ps.getD i.toNat default).len b1) z30_hcf54) rfl ?_
   (refine dr (ro_sadd (up_m rfl (u2 rfl up_h)) up_h ?_) rfl ?_; · (first | ((first | unfold In64 | unfold InU64 | unfold InU8); omega) | (simp only [ByteArray.size_append, size_mk, List.length_cons, List.length_nil] <;> omega) | omega))
   (refine dr (ro_sadd up_h ev_c ?_) rfl ?_; · (first | ((first | unfold In64 | unfold InU64 | unfold InU8); omega) | (simp only [ByteArray.size_append, size_mk, List.length_cons, List.length_nil] <;> omega) | omega))
   refine dr (ro_fld_ptr qfl111_1 rfl (up_m rfl (u2 rfl (u4 rfl s5_10)))) rfl <| dr (ro_eq (ro_ld_ptr z30_ty3 rfl mon_5_9 up_h (nle rfl)) (by simp only [pS, Value.cells, Nat.reduceAdd] <;> rfl)) rfl ?_
   refine dr (ro_call (evL_cons up_h evL_nil) rfl (decimal_ok (ps.getD i.toNat default).grad b2) z30_hcf54) rfl ?_
   (refine dr (ro_sadd (up_m rfl (u2 rfl up_h)) up_h ?_) rfl ?_; · (first | ((first | unfold In64 | unfold InU64 | unfold InU8); omega) | (simp only [ByteArray.size_append, size_mk, List.length_cons, List.length_nil] <;> omega) | omega))
   (refine dr (ro_sadd up_h ev_c ?_) rfl ?_; · (first | ((first | unfold In64 | unfold InU64 | unfold InU8); omega) | (simp only [ByteArray.size_append, size_mk, List.length_cons, List.length_nil] <;> omega) | omega))
   refine dr (ro_fld_ptr qfl111_2 rfl (u4 rfl (u8 rfl s5_10))) rfl <| dr (ro_eq (ro_ld_ptr z30_ty3 rfl mon_5_9 up_h (nle rfl)) (by simp only [pS, Value.cells, Nat.reduceAdd] <;> rfl)) rfl ?_
   refine dr (ro_call (evL_cons up_h evL_nil) rfl (decimal_ok (ps.getD i.toNat default).lim b3) z30_hcf54) rfl ?_
   (refine dr (ro_sadd (up_m rfl (u2 rfl up_h)) up_h ?_) rfl ?_; · (first | ((first | unfold In64 | unfold InU64 | unfold InU8); omega) | (simp only [ByteArray.size_append, size_mk, List.length_cons, List.length_nil] <;> omega) | omega))
   refine dr (ro_assign up_h) rfl <| ds_nil <| ae4 (up_m rfl (u16 rfl s1_10)) up_h (up_m rfl (u16 rfl s4_10)) (up_m rfl (u16 rfl s5_10)) ?_; clear s1_10 s3_10 s4_10 s5_10; intro e_11 s1_11 s3_11 s4_11 s5_11
   refine then_n <| aw_seq <| aw_seq <| at_ <| ar (ro_fld_ptr qfl111_3 rfl s5_11) rfl <| ar (ro_eq (ro_ld_ptr z30_ty4 rfl mon_5_9 up_h (nle rfl)) (by simp only [pS, Value.cells, Nat.reduceAdd] <;> rfl)) rfl ?_
   refine ae4 (u2 rfl s1_11) (u2 rfl s3_11) (u2 rfl s4_11) up_h ?_; clear s1_11 s3_11 s4_11 s5_11; intro e_12 s1_12 s3_12 s4_12 s39_12
   refine then_n <| aw_case s39_12 (fun hq_13 => ?_) (fun hq_13 => ?_)
   ·skip
    have hlv := hq_13
    refine at_ <| ar (ro_move s3_12) rfl ?_
    (refine ar (ro_sadd up_h ev_c ?_) rfl ?_; · (first | ((first | unfold In64 | unfold InU64 | unfold InU8); omega) | (simp only [ByteArray.size_append, size_mk, List.length_cons, List.length_nil] <;> omega) | omega))
    refine ar (ro_assign up_h) rfl <| ae3 (up_m rfl (u2 rfl s1_12)) up_h (up_m rfl (u2 rfl s4_12)) ?_; clear s1_12 s39_12 s3_12 s4_12; intro e_14 s1_14 s3_14 s4_14
    refine then_n <| at_ <| ar (ro_move s3_14) rfl ?_
    (refine ar (ro_sadd up_h ev_c ?_) rfl ?_; · (first | ((first | unfold In64 | unfold InU64 | unfold InU8); omega) | (simp only [ByteArray.size_append, size_mk, List.length_cons, List.length_nil] <;> omega) | omega))
    refine ar (ro_assign up_h) rfl <| ae3 (up_m rfl (u2 rfl s1_14)) up_h (up_m rfl (u2 rfl s4_14)) ?_; clear s1_14 s3_14 s4_14; intro e_15 s1_15 s3_15 s4_15
    refine block_n <| then_n <| at_ <| ar (ro_move s4_15) rfl ?_
    (refine ar (ro_add' up_h ev_c ?_) rfl ?_; · (first | ((first | unfold In64 | unfold InU64 | unfold InU8); omega) | (simp only [ByteArray.size_append, size_mk, List.length_cons, List.length_nil] <;> omega) | omega))
    refine ar (ro_assign up_h) rfl <| ae3 (up_m rfl (u2 rfl s1_15)) (up_m rfl (u2 rfl s3_15)) up_h ?_; clear s1_15 s3_15 s4_15; intro e_16 s1_16 s3_16 s4_16
    refine then_n <| ⟨⟨i + 1, trK nm ps (i + 1).toNat⟩, ⟨s4_16, (s3_16.trans (by first | (simp only [c_track, one_bs, bs_app]; done) | (rw [hstep, ← p3]; simp only [c_piece, c_leave, one_bs, bs_app]; congr 3; simp [pcT, hlv, -List.getD_eq_getElem?_getD]))), (s1_16.trans s1_4.symm), (mo0_9.trans mo0_1.symm), ⟨_, ml_9, by omega⟩, ?_⟩, ?_⟩
    ·exact ⟨by omega, by omega, rfl⟩
    ·((try dsimp only); omega)
   have hlv := hq_13
   refine aw_skip <| then_n <| at_ <| ar (ro_move s3_12) rfl ?_
   (refine ar (ro_sadd up_h ev_c ?_) rfl ?_; · (first | ((first | unfold In64 | unfold InU64 | unfold InU8); omega) | (simp only [ByteArray.size_append, size_mk, List.length_cons, List.length_nil] <;> omega) | omega))
   refine ar (ro_assign up_h) rfl <| ae3 (up_m rfl (u2 rfl s1_12)) up_h (up_m rfl (u2 rfl s4_12)) ?_; clear s1_12 s39_12 s3_12 s4_12; intro e_17 s1_17 s3_17 s4_17
   refine block_n <| then_n <| at_ <| ar (ro_move s4_17) rfl ?_
   (refine ar (ro_add' up_h ev_c ?_) rfl ?_; · (first | ((first | unfold In64 | unfold InU64 | unfold InU8); omega) | (simp only [ByteArray.size_append, size_mk, List.length_cons, List.length_nil] <;> omega) | omega))
   refine ar (ro_assign up_h) rfl <| ae3 (up_m rfl (u2 rfl s1_17)) (up_m rfl (u2 rfl s3_17)) up_h ?_; clear s1_17 s3_17 s4_17; intro e_18 s1_18 s3_18 s4_18
   refine then_n <| ⟨⟨i + 1, trK nm ps (i + 1).toNat⟩, ⟨s4_18, (s3_18.trans (by first | (simp only [c_track, one_bs, bs_app]; done) | (rw [hstep, ← p3]; simp only [c_piece, c_leave, one_bs, bs_app]; congr 3; simp [pcT, hlv, -List.getD_eq_getElem?_getD]))), (s1_18.trans s1_4.symm), (mo0_9.trans mo0_1.symm), ⟨_, ml_9, by omega⟩, ?_⟩, ?_⟩
   ·exact ⟨by omega, by omega, rfl⟩
   ·((try dsimp only); omega)
  replace hq_7 := bf hq_7
  refine aw_exit <| then_x <| then_x <| block_hit <| then_n <| aw_seq <| at_ <| ar (ro_move s3_6) rfl <| ar (ro_assign up_h) rfl <| ae1 up_h ?_; clear s14_6 s1_6 s3_6 s4_6; intro e_19 s2_19
  refine then_n <| aw_ret <| ret1 (.inr rfl) (by kernel_rfl) (resV_tmp s2_19) (.ro _ rfl) ?_
  clear s2_19 mo0_5 ml_5
  (rw [p3, show i.toNat = ps.length by omega, trK_all])
theorem z31_fl198_0 : FldIs Tryz.prog 198 0 0 false 1 := by unfold FldIs; kernel_rfl
theorem z31_fl198_1 : FldIs Tryz.prog 198 1 1 false 1 := by unfold FldIs; kernel_rfl
theorem z31_hcf112 : ∀ args w, (callFunc 112 args).run Tryz.prog w = .ok (.enter 112 args) w := fun _ _ => by kernel_rfl
theorem z31_sl106 : SlIs Tryz.prog 106 198 2 24 (.agg #[.string ByteArray.empty, .int .i64 0]) := ⟨by kernel_rfl, by kernel_rfl, by kernel_rfl⟩
theorem z31_sl76 : SlIs Tryz.prog 76 3 1 8 (.int .i64 0) := ⟨by kernel_rfl, by kernel_rfl, by kernel_rfl⟩
theorem z31_ty3 : TyIs Tryz.prog 3 false 1 := ⟨by kernel_rfl, by kernel_rfl⟩
theorem z31_ty9 : TyIs Tryz.prog 9 false 1 := ⟨by kernel_rfl, by kernel_rfl⟩
structure LR where
 nm : List UInt8
 l : List Int
 lv : Bool
 c : Int
 e : Int
def lrA (r : LR) : AV := .tuple [.v (.string (bs r.nm)), .row 1 (r.l.map iE), bA r.lv, iA r.c, iA r.e]
def lErr (c e : Int) : LR := ⟨[], [], false, c, e⟩
def nth (ws : List Wd) (i : Nat) : Wd := ws.getD i default
def endW (ws : List Wd) : Int := (nth ws (ws.length - 1)).c + (nth ws (ws.length - 1)).t.length
def lerH (ws : List Wd) : LR :=
 if (nth ws 0).t ≠ wTrack then lErr (nth ws 0).c 7 else if ws.length < 2 then lErr (endW ws) 6 else if isNameB (bs (nth ws 1).t) = false then lErr (nth ws 1).c 4 else
 if 2 < ws.length then lErr (nth ws 2).c 7 else ⟨(nth ws 1).t, [], false, 0, 0⟩
def chkN (ws : List Wd) (i : Nat) : Option (Int × Int) := if ws.length ≤ i then some (endW ws, 6) else if okW (nth ws i).t (decide (i = 2)) then none else some ((nth ws i).c, 7)
def lerT (ws : List Wd) : LR :=
 if 4 < ws.length ∧ (nth ws 4).t ≠ wLeave then lErr (nth ws 4).c 7 else if 5 < ws.length then lErr (nth ws 5).c 7 else
 ⟨[], [numN (nth ws 1).t, numN (nth ws 2).t, numN (nth ws 3).t], decide (4 < ws.length), 0, 0⟩
def lerP (ws : List Wd) : LR :=
 if (nth ws 0).t ≠ wPiece then lErr (nth ws 0).c 7 else match chkN ws 1 with
 | some x => lErr x.1 x.2
 | none => match chkN ws 2 with
  | some x => lErr x.1 x.2
  | none => match chkN ws 3 with
   | some x => lErr x.1 x.2
   | none => lerT ws
theorem lerP_at {ws : List Wd} {i : Int} {x : Int × Int} (h0 : (nth ws 0).t = wPiece) (h1 : 1 ≤ i) (h2 : i ≤ 3) (hb : ∀ k : Nat, 1 ≤ k → (k : Int) < i → chkN ws k = none) (hx : chkN ws i.toNat = some x) : lerP ws = lErr x.1 x.2 := by
 unfold lerP
 rw [if_neg (by simpa using h0)]
 have : i = 1 ∨ i = 2 ∨ i = 3 := by omega
 rcases this with rfl | rfl | rfl
 ·rw [show (1 : Int).toNat = 1 from rfl] at hx; rw [hx]
 ·rw [show (2 : Int).toNat = 2 from rfl] at hx; rw [hb 1 (by omega) (by omega), hx]
 ·rw [show (3 : Int).toNat = 3 from rfl] at hx; rw [hb 1 (by omega) (by omega), hb 2 (by omega) (by omega), hx]
theorem lerP_end {ws : List Wd} (h0 : (nth ws 0).t = wPiece) (hb : ∀ k : Nat, 1 ≤ k → (k : Int) < 4 → chkN ws k = none) : lerP ws = lerT ws := by
 unfold lerP
 rw [if_neg (by simpa using h0), hb 1 (by omega) (by omega), hb 2 (by omega) (by omega), hb 3 (by omega) (by omega)]
def nums (ws : List Wd) (i : Nat) : List Int := (List.range (i - 1)).map fun k => numN (nth ws (k + 1)).t
theorem nums_step (ws : List Wd) {i : Nat} (h : 1 ≤ i) : nums ws (i + 1) = nums ws i ++ [numN (nth ws i).t] := by
 unfold nums
 rw [show i + 1 - 1 = (i - 1) + 1 by omega, List.range_succ, List.map_append, List.map_singleton, show i - 1 + 1 = i by omega]
theorem bsA (l : List UInt8) : (bs l).data.toList = l := rfl
theorem chkN_len {ws : List Wd} {i : Int} (h0 : 0 ≤ i) (h : (ws.length : Int) ≤ i) : chkN ws i.toNat = some (endW ws, 6) := by unfold chkN; rw [if_pos (by omega)]
theorem chkN_bad {ws : List Wd} {i : Int} (h0 : 0 ≤ i) (h : ¬ (ws.length : Int) ≤ i) (hk : okW (nth ws i.toNat).t (decide (i.toNat = 2)) = false) : chkN ws i.toNat = some ((nth ws i.toNat).c, 7) := by
 unfold chkN; rw [if_neg (by omega), if_neg (by rw [hk]; decide)]
theorem chkN_ok {ws : List Wd} {i : Int} (h0 : 0 ≤ i) (h : ¬ (ws.length : Int) ≤ i) (hk : okW (nth ws i.toNat).t (decide (i.toNat = 2)) = true) : chkN ws i.toNat = none := by
 unfold chkN; rw [if_neg (by omega), if_pos hk]
theorem numR_yes' {l : List UInt8} {D : Nat} (h : numK l D = true) : numR l D = numN l := by unfold numR; rw [if_pos h]
theorem ok_two {w : List UInt8} {i : Int} (h : numK w 11 = true) (hi : i = 2 ∨ ¬ numR w 11 < 0) : okW w (decide (i.toNat = 2)) = true := by
 unfold okW
 rw [numR_yes' h] at hi
 rw [h]
 rcases hi with h1 | h1
 ·rw [h1]; rfl
 ·simp; omega
theorem ok_bad1 {w : List UInt8} {b : Bool} (h : numK w 11 = false) : okW w b = false := by unfold okW; rw [h]; rfl
theorem ok_bad2 {w : List UInt8} {i : Int} (h0 : 0 ≤ i) (h : numK w 11 = true) (h1 : ¬ i = 2) (h2 : numR w 11 < 0) : okW w (decide (i.toNat = 2)) = false := by
 unfold okW
 rw [numR_yes' h] at h2
 rw [h, decide_eq_false (by omega : ¬ i.toNat = 2), decide_eq_false (by omega)]; rfl
theorem w_track : (⟨#[116, 114, 97, 99, 107]⟩ : ByteArray) = bs wTrack := rfl
theorem w_piece : (⟨#[112, 105, 101, 99, 101]⟩ : ByteArray) = bs wPiece := rfl
theorem w_leave : (⟨#[108, 101, 97, 118, 101]⟩ : ByteArray) = bs wLeave := rfl
set_option maxRecDepth 100000 in
set_option maxHeartbeats 4000000 in
theorem lineErr_head (ws : List Wd) (h0 : 0 < ws.length) (hl : ws.length ≤ 100000) (hs : ∀ w ∈ ws, w.t.length ≤ 1000000 ∧ 0 ≤ w.c ∧ w.c ≤ 1000001) : FnOk Tryz.prog 47 [.row 2 (ws.map wE), bA true] (fun q => q = lrA (lerH ws)) := by
 have hw : ∀ i : Nat, i < ws.length → (ws.getD i default).t.length ≤ 1000000 ∧ 0 ≤ (ws.getD i default).c ∧ (ws.getD i default).c ≤ 1000001 := fun i hi => by
  have := hs _ (List.getElem_mem hi)
  rw [List.getD_eq_getElem?_getD, List.getElem?_eq_getElem hi]; exact this
 have hz : ∀ l : List UInt8, (bs l).size = l.length := bs_size
 have he1 : ((ws.length : Int) - 1).toNat = ws.length - 1 := by omega
 have hwE := hw (ws.length - 1) (by omega)
 have hzE := hz (ws.getD (ws.length - 1) default).t
 refine fnOk_of (fn := Tryz.f47) 130 (by kernel_rfl) rfl (by kernel_rfl) (Nat.le_of_ble_eq_true rfl) ?_
 intro e_0 m_0 hA hm_0
 have s0_0 : evA e_0 (.tmp 0) = _ := hA 0 _ rfl
 have s1_0 : evA e_0 (.tmp 1) = _ := hA 1 _ rfl
 have ml_0 : m_0.length = 0 := by rw [hm_0]; rfl
 clear hA hm_0
 refine aw_seq <| at_ <| ar (ro_assign ev_c) rfl <| ar (ro_assign ev_c) rfl <| ar (ro_assign ev_c) rfl <| ar (ro_assign ev_c) rfl <| ar (ro_assign ev_c) rfl <| ae2 (up_m rfl (u4 rfl s0_0)) (up_m rfl (u4 rfl s1_0)) ?_; clear s0_0 s1_0; intro e_1 s0_1 s1_1
 refine then_n <| aw_seq <| at_ <| ar (ro_assign ev_c) rfl <| ae3 (up_m rfl s0_1) (up_m rfl s1_1) up_h ?_; clear s0_1 s1_1; intro e_2 s0_2 s1_2 s9_2
 refine then_n <| aw_seq <| aw_seq <| at_ <| ar (ro_move s1_2) rfl <| ae4 (up_m rfl s0_2) (up_m rfl s1_2) (up_m rfl s9_2) up_h ?_; clear s0_2 s1_2 s9_2; intro e_3 s0_3 s1_3 s9_3 s16_3
 refine then_n <| aw_case s16_3 (fun hq_4 => ?_) (fun hq_4 => ?_)
 ·skip
  refine at_ <| ar (ro_assign ev_c) rfl <| ae3 (up_m rfl s0_3) (up_m rfl s1_3) up_h ?_; clear s0_3 s16_3 s1_3 s9_3; intro e_5 s0_5 s1_5 s9_5
  refine then_n <| aw_seq <| aw_seq <| at_ <| ar (ro_move s0_5) rfl <| ar (ro_eq (ro_ix z31_sl106 up_h ev_c (by decide) (by first | (refine idx_map ?_; first | omega | (simp only [lnS]; omega)) | (refine idx_mapI ?_; first | omega | (simp only [lnS]; omega)) | (refine idx_mapN ?_; first | omega | (simp only [lnS]; omega)) | rfl)) (by simp only [pS, Value.cells, Nat.reduceAdd, wE, he1] <;> rfl)) rfl ?_
  refine ar (ro_eq (ro_fld_ref z31_fl198_0 rfl up_h) (by simp only [pS, Value.cells, Nat.reduceAdd, wE, he1] <;> rfl)) rfl ?_
  refine ar (ro_eq (ro_ld_ref z31_ty9 rfl up_h (nle rfl)) (by simp only [pS, Value.cells, Nat.reduceAdd, wE, he1] <;> rfl)) rfl ?_
  refine ar (ro_move (u4 rfl s9_5)) rfl <| ar (ro_sneq (up_m rfl up_h) up_h) rfl <| ae3 (u2 rfl (u4 rfl s0_5)) (u2 rfl (u4 rfl s1_5)) up_h ?_; clear s0_5 s1_5 s9_5; intro e_6 s0_6 s1_6 s22_6
  refine then_n <| aw_case s22_6 (fun hq_7 => ?_) (fun hq_7 => ?_)
  ·replace hq_7 := bt' hq_7
   have q2 : (nth ws 0).t ≠ wTrack := (by have h_ := hq_7; simp only [w_track, bs_toList] at h_; simpa [nth] using h_)
   refine aw_seq <| aw_draw 9 (by kernel_rfl) (by kernel_rfl) (by kernel_rfl) (by kernel_rfl) ?_
   refine dr (ro_move s0_6) rfl <| dr (ro_eq (ro_ix z31_sl106 up_h ev_c (by decide) (by first | (refine idx_map ?_; first | omega | (simp only [lnS]; omega)) | (refine idx_mapI ?_; first | omega | (simp only [lnS]; omega)) | (refine idx_mapN ?_; first | omega | (simp only [lnS]; omega)) | rfl)) (by simp only [pS, Value.cells, Nat.reduceAdd, wE, he1] <;> rfl)) rfl ?_
   refine dr (ro_eq (ro_fld_ref z31_fl198_1 rfl up_h) (by simp only [pS, Value.cells, Nat.reduceAdd, wE, he1] <;> rfl)) rfl ?_
   refine dr (ro_eq (ro_ld_ref z31_ty3 rfl up_h (nle rfl)) (by simp only [pS, Value.cells, Nat.reduceAdd, wE, he1] <;> rfl)) rfl ?_
   refine dr (ro_assign ev_c) rfl <| dr (ro_assign ev_c) rfl <| dr (ro_assign ev_c) rfl <| dr (ro_assign (up_m rfl (u2 rfl up_h))) rfl <| dr (ro_assign ev_c) rfl <| ds_nil <| ae5 (u4 rfl up_h) (up_m rfl (u2 rfl up_h)) (u2 rfl up_h) (up_m rfl up_h) up_h ?_; clear s0_6 s1_6 s22_6; intro e_8 s4_8 s5_8 s6_8 s7_8 s8_8
   refine then_n <| aw_ret <| then_r <| ret5 (.inr rfl) (by kernel_rfl) (resV_tmp s4_8) (resV_tmp s5_8) (resV_tmp s6_8) (resV_tmp s7_8) (resV_tmp s8_8) (.ro _ rfl) (.nil 1) (.ro _ rfl) (.ro _ rfl) (.ro _ rfl) ?_
   clear s4_8 s5_8 s6_8 s7_8 s8_8 ml_0
   (unfold lerH; rw [if_pos q2]; rfl)
  replace hq_7 := bf' hq_7
  have q2 : (nth ws 0).t = wTrack := (by have h_ := hq_7; simp only [w_track, bs_toList] at h_; simpa [nth] using h_)
  refine aw_skip <| then_n <| aw_seq <| aw_draw 17 (by kernel_rfl) (by kernel_rfl) (by kernel_rfl) (by kernel_rfl) ?_
  refine dr (ro_move s0_6) rfl <| dr (ro_move (up_m rfl s0_6)) rfl <| dr (ro_eq (ro_len_row up_h rfl z31_sl106.1) (by simp only [lnS] <;> rfl)) rfl ?_
  (refine dr (ro_sub' up_h ev_c ?_) rfl ?_; · (unfold In64; omega))
  refine dr (ro_eq (ro_ix z31_sl106 (up_m rfl (u2 rfl up_h)) up_h (by omega) (by first | (refine idx_map ?_; first | omega | (simp only [lnS]; omega)) | (refine idx_mapI ?_; first | omega | (simp only [lnS]; omega)) | (refine idx_mapN ?_; first | omega | (simp only [lnS]; omega)) | rfl)) (by simp only [pS, Value.cells, Nat.reduceAdd, wE, he1] <;> rfl)) rfl ?_
  refine dr (ro_eq (ro_fld_ref z31_fl198_1 rfl up_h) (by simp only [pS, Value.cells, Nat.reduceAdd, wE, he1] <;> rfl)) rfl ?_
  refine dr (ro_eq (ro_ld_ref z31_ty3 rfl up_h (nle rfl)) (by simp only [pS, Value.cells, Nat.reduceAdd, wE, he1] <;> rfl)) rfl ?_
  refine dr (ro_move (up_m rfl (u2 rfl (u4 rfl s0_6)))) rfl <| dr (ro_move (u8 rfl s0_6)) rfl <| dr (ro_eq (ro_len_row up_h rfl z31_sl106.1) (by simp only [lnS] <;> rfl)) rfl ?_
  (refine dr (ro_sub' up_h ev_c ?_) rfl ?_; · (unfold In64; omega))
  refine dr (ro_eq (ro_ix z31_sl106 (up_m rfl (u2 rfl up_h)) up_h (by omega) (by first | (refine idx_map ?_; first | omega | (simp only [lnS]; omega)) | (refine idx_mapI ?_; first | omega | (simp only [lnS]; omega)) | (refine idx_mapN ?_; first | omega | (simp only [lnS]; omega)) | rfl)) (by simp only [pS, Value.cells, Nat.reduceAdd, wE, he1] <;> rfl)) rfl ?_
  refine dr (ro_eq (ro_fld_ref z31_fl198_0 rfl up_h) (by simp only [pS, Value.cells, Nat.reduceAdd, wE, he1] <;> rfl)) rfl ?_
  refine dr (ro_eq (ro_ld_ref z31_ty9 rfl up_h (nle rfl)) (by simp only [pS, Value.cells, Nat.reduceAdd, wE, he1] <;> rfl)) rfl ?_
  refine dr (ro_len_str up_h rfl qun9) rfl ?_
  (refine dr (ro_add' (u8 rfl up_h) up_h ?_) rfl ?_; · (unfold In64; omega))
  refine dr (ro_assign up_h) rfl <| ds_nil <| ae3 (up_m rfl (u16 rfl s0_6)) (up_m rfl (u16 rfl s1_6)) up_h ?_; clear s0_6 s1_6 s22_6; intro e_9 s0_9 s1_9 s10_9
  refine then_n <| aw_seq <| aw_seq <| at_ <| ar (ro_move s1_9) rfl <| ae3 (up_m rfl s0_9) (up_m rfl s10_9) up_h ?_; clear s0_9 s10_9 s1_9; intro e_10 s0_10 s10_10 s43_10
  refine then_n <| aw_case s43_10 (fun hq_11 => ?_) (fun hq_11 => ?_)
  ·skip
   refine aw_seq <| aw_seq <| at_ <| ar (ro_move s0_10) rfl <| ar (ro_eq (ro_len_row up_h rfl z31_sl106.1) (by simp only [lnS] <;> rfl)) rfl ?_
   refine ar (ro_lss up_h ev_c) rfl <| ae3 (up_m rfl (u2 rfl s0_10)) (up_m rfl (u2 rfl s10_10)) up_h ?_; clear s0_10 s10_10 s43_10; intro e_12 s0_12 s10_12 s46_12
   refine then_n <| aw_case s46_12 (fun hq_13 => ?_) (fun hq_13 => ?_)
   ·replace hq_13 := bt hq_13
    refine aw_seq <| at_ <| ar (ro_move s10_12) rfl <| ar (ro_assign ev_c) rfl <| ar (ro_assign ev_c) rfl <| ar (ro_assign ev_c) rfl <| ar (ro_assign (up_m rfl (u2 rfl up_h))) rfl <| ar (ro_assign ev_c) rfl <| ae5 (u4 rfl up_h) (up_m rfl (u2 rfl up_h)) (u2 rfl up_h) (up_m rfl up_h) up_h ?_; clear s0_12 s10_12 s46_12; intro e_14 s4_14 s5_14 s6_14 s7_14 s8_14
    refine then_n <| aw_ret <| then_r <| then_r <| ret5 (.inr rfl) (by kernel_rfl) (resV_tmp s4_14) (resV_tmp s5_14) (resV_tmp s6_14) (resV_tmp s7_14) (resV_tmp s8_14) (.ro _ rfl) (.nil 1) (.ro _ rfl) (.ro _ rfl) (.ro _ rfl) ?_
    clear s4_14 s5_14 s6_14 s7_14 s8_14 ml_0
    (unfold lerH; rw [if_neg (by simpa using q2), if_pos (by omega)]; rfl)
   replace hq_13 := bf hq_13
   refine aw_skip <| then_n <| aw_seq <| aw_seq <| at_ <| ar (ro_move s0_12) rfl <| ar (ro_eq (ro_ix z31_sl106 up_h ev_c (by decide) (by refine idx_map ?_; first | omega | (simp only [lnS]; omega))) (by simp only [pS, Value.cells, Nat.reduceAdd, wE, he1] <;> rfl)) rfl ?_
   refine ar (ro_eq (ro_fld_ref z31_fl198_0 rfl up_h) (by simp only [pS, Value.cells, Nat.reduceAdd, wE, he1] <;> rfl)) rfl ?_
   refine ar (ro_eq (ro_ld_ref z31_ty9 rfl up_h (nle rfl)) (by simp only [pS, Value.cells, Nat.reduceAdd, wE, he1] <;> rfl)) rfl ?_
   refine ar (ro_call (evL_cons up_h evL_nil) rfl (bIsName_ok (bs (ws.getD (Int.toNat 1) default).t) (by rw [bs_size]; have := (hw (Int.toNat 1) (by omega)).1; omega)) qhcf111) rfl ?_
   refine ar (ro_not up_h) rfl <| ae2 (u2 rfl (u4 rfl s0_12)) up_h ?_; clear s0_12 s10_12 s46_12; intro e_15 s0_15 s53_15
   refine then_n <| aw_case s53_15 (fun hq_16 => ?_) (fun hq_16 => ?_)
   ·replace hq_16 := bt' hq_16
    have q5 : isNameB (bs (nth ws 1).t) = false := hq_16
    refine aw_seq <| aw_draw 9 (by kernel_rfl) (by kernel_rfl) (by kernel_rfl) (by kernel_rfl) ?_
    refine dr (ro_move s0_15) rfl <| dr (ro_eq (ro_ix z31_sl106 up_h ev_c (by decide) (by refine idx_map ?_; first | omega | (simp only [lnS]; omega))) (by simp only [pS, Value.cells, Nat.reduceAdd, wE, he1] <;> rfl)) rfl ?_
    refine dr (ro_eq (ro_fld_ref z31_fl198_1 rfl up_h) (by simp only [pS, Value.cells, Nat.reduceAdd, wE, he1] <;> rfl)) rfl ?_
    refine dr (ro_eq (ro_ld_ref z31_ty3 rfl up_h (nle rfl)) (by simp only [pS, Value.cells, Nat.reduceAdd, wE, he1] <;> rfl)) rfl ?_
    refine dr (ro_assign ev_c) rfl <| dr (ro_assign ev_c) rfl <| dr (ro_assign ev_c) rfl <| dr (ro_assign (up_m rfl (u2 rfl up_h))) rfl <| dr (ro_assign ev_c) rfl <| ds_nil <| ae5 (u4 rfl up_h) (up_m rfl (u2 rfl up_h)) (u2 rfl up_h) (up_m rfl up_h) up_h ?_; clear s0_15 s53_15; intro e_17 s4_17 s5_17 s6_17 s7_17 s8_17
    refine then_n <| aw_ret <| then_r <| then_r <| ret5 (.inr rfl) (by kernel_rfl) (resV_tmp s4_17) (resV_tmp s5_17) (resV_tmp s6_17) (resV_tmp s7_17) (resV_tmp s8_17) (.ro _ rfl) (.nil 1) (.ro _ rfl) (.ro _ rfl) (.ro _ rfl) ?_
    clear s4_17 s5_17 s6_17 s7_17 s8_17 ml_0
    (unfold lerH; rw [if_neg (by simpa using q2), if_neg (by omega), if_pos q5]; rfl)
   replace hq_16 := bf' hq_16
   have q5 : isNameB (bs (nth ws 1).t) = true := hq_16
   refine aw_skip <| then_n <| aw_seq <| aw_seq <| at_ <| ar (ro_move s0_15) rfl <| ar (ro_eq (ro_len_row up_h rfl z31_sl106.1) (by simp only [lnS] <;> rfl)) rfl ?_
   refine ar (ro_gtr up_h ev_c) rfl <| ae2 (up_m rfl (u2 rfl s0_15)) up_h ?_; clear s0_15 s53_15; intro e_18 s0_18 s60_18
   refine then_n <| aw_case s60_18 (fun hq_19 => ?_) (fun hq_19 => ?_)
   ·replace hq_19 := bt hq_19
    refine aw_seq <| aw_draw 9 (by kernel_rfl) (by kernel_rfl) (by kernel_rfl) (by kernel_rfl) ?_
    refine dr (ro_move s0_18) rfl <| dr (ro_eq (ro_ix z31_sl106 up_h ev_c (by decide) (by refine idx_map ?_; first | omega | (simp only [lnS]; omega))) (by simp only [pS, Value.cells, Nat.reduceAdd, wE, he1] <;> rfl)) rfl ?_
    refine dr (ro_eq (ro_fld_ref z31_fl198_1 rfl up_h) (by simp only [pS, Value.cells, Nat.reduceAdd, wE, he1] <;> rfl)) rfl ?_
    refine dr (ro_eq (ro_ld_ref z31_ty3 rfl up_h (nle rfl)) (by simp only [pS, Value.cells, Nat.reduceAdd, wE, he1] <;> rfl)) rfl ?_
    refine dr (ro_assign ev_c) rfl <| dr (ro_assign ev_c) rfl <| dr (ro_assign ev_c) rfl <| dr (ro_assign (up_m rfl (u2 rfl up_h))) rfl <| dr (ro_assign ev_c) rfl <| ds_nil <| ae5 (u4 rfl up_h) (up_m rfl (u2 rfl up_h)) (u2 rfl up_h) (up_m rfl up_h) up_h ?_; clear s0_18 s60_18; intro e_20 s4_20 s5_20 s6_20 s7_20 s8_20
    refine then_n <| aw_ret <| then_r <| then_r <| ret5 (.inr rfl) (by kernel_rfl) (resV_tmp s4_20) (resV_tmp s5_20) (resV_tmp s6_20) (resV_tmp s7_20) (resV_tmp s8_20) (.ro _ rfl) (.nil 1) (.ro _ rfl) (.ro _ rfl) (.ro _ rfl) ?_
    clear s4_20 s5_20 s6_20 s7_20 s8_20 ml_0
    (unfold lerH; rw [if_neg (by simpa using q2), if_neg (by omega), if_neg (by rw [q5]; decide), if_pos (by omega)]; rfl)
   replace hq_19 := bf hq_19
   refine aw_skip <| then_n <| aw_seq <| at_ <| ar (ro_move s0_18) rfl <| ar (ro_eq (ro_ix z31_sl106 up_h ev_c (by decide) (by refine idx_map ?_; first | omega | (simp only [lnS]; omega))) (by simp only [pS, Value.cells, Nat.reduceAdd, wE, he1] <;> rfl)) rfl ?_
   refine ar (ro_eq (ro_fld_ref z31_fl198_0 rfl up_h) (by simp only [pS, Value.cells, Nat.reduceAdd, wE, he1] <;> rfl)) rfl ?_
   refine ar (ro_eq (ro_ld_ref z31_ty9 rfl up_h (nle rfl)) (by simp only [pS, Value.cells, Nat.reduceAdd, wE, he1] <;> rfl)) rfl ?_
   refine ar (ro_assign up_h) rfl <| ar (ro_assign ev_c) rfl <| ar (ro_assign ev_c) rfl <| ar (ro_assign ev_c) rfl <| ar (ro_assign ev_c) rfl <| ae5 (u4 rfl up_h) (up_m rfl (u2 rfl up_h)) (u2 rfl up_h) (up_m rfl up_h) up_h ?_; clear s0_18 s60_18; intro e_21 s4_21 s5_21 s6_21 s7_21 s8_21
   refine then_n <| aw_ret <| then_r <| ret5 (.inr rfl) (by kernel_rfl) (resV_tmp s4_21) (resV_tmp s5_21) (resV_tmp s6_21) (resV_tmp s7_21) (resV_tmp s8_21) (.ro _ rfl) (.nil 1) (.ro _ rfl) (.ro _ rfl) (.ro _ rfl) ?_
   clear s4_21 s5_21 s6_21 s7_21 s8_21 ml_0
   (unfold lerH; rw [if_neg (by simpa using q2), if_neg (by omega), if_neg (by rw [q5]; decide), if_neg (by omega)]; rfl)
  ·cases hq_11
 ·cases hq_4
set_option maxRecDepth 100000 in
set_option maxHeartbeats 4000000 in
theorem lineErr_piece (ws : List Wd) (h0 : 0 < ws.length) (hl : ws.length ≤ 100000) (hs : ∀ w ∈ ws, w.t.length ≤ 1000000 ∧ 0 ≤ w.c ∧ w.c ≤ 1000001) : FnOk Tryz.prog 47 [.row 2 (ws.map wE), bA false] (fun q => q = lrA (lerP ws)) := by
 have hw : ∀ i : Nat, i < ws.length → (ws.getD i default).t.length ≤ 1000000 ∧ 0 ≤ (ws.getD i default).c ∧ (ws.getD i default).c ≤ 1000001 := fun i hi => by
  have := hs _ (List.getElem_mem hi)
  rw [List.getD_eq_getElem?_getD, List.getElem?_eq_getElem hi]; exact this
 have hz : ∀ l : List UInt8, (bs l).size = l.length := bs_size
 have he1 : ((ws.length : Int) - 1).toNat = ws.length - 1 := by omega
 have hwE := hw (ws.length - 1) (by omega)
 have hzE := hz (ws.getD (ws.length - 1) default).t
 refine fnOk_of (fn := Tryz.f47) 130 (by kernel_rfl) rfl (by kernel_rfl) (Nat.le_of_ble_eq_true rfl) ?_
 intro e_0 m_0 hA hm_0
 have s0_0 : evA e_0 (.tmp 0) = _ := hA 0 _ rfl
 have s1_0 : evA e_0 (.tmp 1) = _ := hA 1 _ rfl
 have ml_0 : m_0.length = 0 := by rw [hm_0]; rfl
 clear hA hm_0
 refine aw_seq <| at_ <| ar (ro_assign ev_c) rfl <| ar (ro_assign ev_c) rfl <| ar (ro_assign ev_c) rfl <| ar (ro_assign ev_c) rfl <| ar (ro_assign ev_c) rfl <| ae2 (up_m rfl (u4 rfl s0_0)) (up_m rfl (u4 rfl s1_0)) ?_; clear s0_0 s1_0; intro e_1 s0_1 s1_1
 refine then_n <| aw_seq <| at_ <| ar (ro_assign ev_c) rfl <| ae3 (up_m rfl s0_1) (up_m rfl s1_1) up_h ?_; clear s0_1 s1_1; intro e_2 s0_2 s1_2 s9_2
 refine then_n <| aw_seq <| aw_seq <| at_ <| ar (ro_move s1_2) rfl <| ae4 (up_m rfl s0_2) (up_m rfl s1_2) (up_m rfl s9_2) up_h ?_; clear s0_2 s1_2 s9_2; intro e_3 s0_3 s1_3 s9_3 s16_3
 refine then_n <| aw_case s16_3 (fun hq_4 => ?_) (fun hq_4 => ?_)
 ·cases hq_4
 refine aw_skip <| then_n <| aw_seq <| aw_seq <| at_ <| ar (ro_move s0_3) rfl <| ar (ro_eq (ro_ix z31_sl106 up_h ev_c (by decide) (by first | (refine idx_map ?_; first | omega | (simp only [lnS]; omega)) | (refine idx_mapI ?_; first | omega | (simp only [lnS]; omega)) | (refine idx_mapN ?_; first | omega | (simp only [lnS]; omega)) | rfl)) (by simp only [pS, Value.cells, Nat.reduceAdd, wE, he1, one_iE, app_m] <;> rfl)) rfl ?_
 refine ar (ro_eq (ro_fld_ref z31_fl198_0 rfl up_h) (by simp only [pS, Value.cells, Nat.reduceAdd, wE, he1, one_iE, app_m] <;> rfl)) rfl ?_
 refine ar (ro_eq (ro_ld_ref z31_ty9 rfl up_h (nle rfl)) (by simp only [pS, Value.cells, Nat.reduceAdd, wE, he1, one_iE, app_m] <;> rfl)) rfl ?_
 refine ar (ro_move (u4 rfl s9_3)) rfl <| ar (ro_sneq (up_m rfl up_h) up_h) rfl <| ae3 (u2 rfl (u4 rfl s0_3)) (u2 rfl (u4 rfl s1_3)) up_h ?_; clear s0_3 s16_3 s1_3 s9_3; intro e_5 s0_5 s1_5 s22_5
 refine then_n <| aw_case s22_5 (fun hq_6 => ?_) (fun hq_6 => ?_)
 ·replace hq_6 := bt' hq_6
  have q2 : (nth ws 0).t ≠ wPiece := (by have h_ := hq_6; simp only [w_piece, bs_toList] at h_; simpa [nth] using h_)
  refine aw_seq <| aw_draw 9 (by kernel_rfl) (by kernel_rfl) (by kernel_rfl) (by kernel_rfl) ?_
  refine dr (ro_move s0_5) rfl <| dr (ro_eq (ro_ix z31_sl106 up_h ev_c (by decide) (by first | (refine idx_map ?_; first | omega | (simp only [lnS]; omega)) | (refine idx_mapI ?_; first | omega | (simp only [lnS]; omega)) | (refine idx_mapN ?_; first | omega | (simp only [lnS]; omega)) | rfl)) (by simp only [pS, Value.cells, Nat.reduceAdd, wE, he1, one_iE, app_m] <;> rfl)) rfl ?_
  refine dr (ro_eq (ro_fld_ref z31_fl198_1 rfl up_h) (by simp only [pS, Value.cells, Nat.reduceAdd, wE, he1, one_iE, app_m] <;> rfl)) rfl ?_
  refine dr (ro_eq (ro_ld_ref z31_ty3 rfl up_h (nle rfl)) (by simp only [pS, Value.cells, Nat.reduceAdd, wE, he1, one_iE, app_m] <;> rfl)) rfl ?_
  refine dr (ro_assign ev_c) rfl <| dr (ro_assign ev_c) rfl <| dr (ro_assign ev_c) rfl <| dr (ro_assign (up_m rfl (u2 rfl up_h))) rfl <| dr (ro_assign ev_c) rfl <| ds_nil <| ae5 (u4 rfl up_h) (up_m rfl (u2 rfl up_h)) (u2 rfl up_h) (up_m rfl up_h) up_h ?_; clear s0_5 s1_5 s22_5; intro e_7 s4_7 s5_7 s6_7 s7_7 s8_7
  refine then_n <| aw_ret <| then_r <| ret5 (.inr rfl) (by kernel_rfl) (resV_tmp s4_7) (resV_tmp s5_7) (resV_tmp s6_7) (resV_tmp s7_7) (resV_tmp s8_7) (.ro _ rfl) (.nil 1) (.ro _ rfl) (.ro _ rfl) (.ro _ rfl) ?_
  clear s4_7 s5_7 s6_7 s7_7 s8_7 ml_0
  (unfold lerP; rw [if_pos q2]; rfl)
 replace hq_6 := bf' hq_6
 have q2 : (nth ws 0).t = wPiece := (by have h_ := hq_6; simp only [w_piece, bs_toList] at h_; simpa [nth] using h_)
 refine aw_skip <| then_n <| aw_seq <| aw_draw 17 (by kernel_rfl) (by kernel_rfl) (by kernel_rfl) (by kernel_rfl) ?_
 refine dr (ro_move s0_5) rfl <| dr (ro_move (up_m rfl s0_5)) rfl <| dr (ro_eq (ro_len_row up_h rfl z31_sl106.1) (by simp only [lnS] <;> rfl)) rfl ?_
 (refine dr (ro_sub' up_h ev_c ?_) rfl ?_; · (unfold In64; omega))
 refine dr (ro_eq (ro_ix z31_sl106 (up_m rfl (u2 rfl up_h)) up_h (by omega) (by first | (refine idx_map ?_; first | omega | (simp only [lnS]; omega)) | (refine idx_mapI ?_; first | omega | (simp only [lnS]; omega)) | (refine idx_mapN ?_; first | omega | (simp only [lnS]; omega)) | rfl)) (by simp only [pS, Value.cells, Nat.reduceAdd, wE, he1, one_iE, app_m] <;> rfl)) rfl ?_
 refine dr (ro_eq (ro_fld_ref z31_fl198_1 rfl up_h) (by simp only [pS, Value.cells, Nat.reduceAdd, wE, he1, one_iE, app_m] <;> rfl)) rfl ?_
 refine dr (ro_eq (ro_ld_ref z31_ty3 rfl up_h (nle rfl)) (by simp only [pS, Value.cells, Nat.reduceAdd, wE, he1, one_iE, app_m] <;> rfl)) rfl ?_
 refine dr (ro_move (up_m rfl (u2 rfl (u4 rfl s0_5)))) rfl <| dr (ro_move (u8 rfl s0_5)) rfl <| dr (ro_eq (ro_len_row up_h rfl z31_sl106.1) (by simp only [lnS] <;> rfl)) rfl ?_
 (refine dr (ro_sub' up_h ev_c ?_) rfl ?_; · (unfold In64; omega))
 refine dr (ro_eq (ro_ix z31_sl106 (up_m rfl (u2 rfl up_h)) up_h (by omega) (by first | (refine idx_map ?_; first | omega | (simp only [lnS]; omega)) | (refine idx_mapI ?_; first | omega | (simp only [lnS]; omega)) | (refine idx_mapN ?_; first | omega | (simp only [lnS]; omega)) | rfl)) (by simp only [pS, Value.cells, Nat.reduceAdd, wE, he1, one_iE, app_m] <;> rfl)) rfl ?_
 refine dr (ro_eq (ro_fld_ref z31_fl198_0 rfl up_h) (by simp only [pS, Value.cells, Nat.reduceAdd, wE, he1, one_iE, app_m] <;> rfl)) rfl ?_
 refine dr (ro_eq (ro_ld_ref z31_ty9 rfl up_h (nle rfl)) (by simp only [pS, Value.cells, Nat.reduceAdd, wE, he1, one_iE, app_m] <;> rfl)) rfl ?_
 refine dr (ro_len_str up_h rfl qun9) rfl ?_
 (refine dr (ro_add' (u8 rfl up_h) up_h ?_) rfl ?_; · (unfold In64; omega))
 refine dr (ro_assign up_h) rfl <| ds_nil <| ae3 (up_m rfl (u16 rfl s0_5)) (up_m rfl (u16 rfl s1_5)) up_h ?_; clear s0_5 s1_5 s22_5; intro e_8 s0_8 s1_8 s10_8
 refine then_n <| aw_seq <| aw_seq <| at_ <| ar (ro_move s1_8) rfl <| ae3 (up_m rfl s0_8) (up_m rfl s10_8) up_h ?_; clear s0_8 s10_8 s1_8; intro e_9 s0_9 s10_9 s43_9
 refine then_n <| aw_case s43_9 (fun hq_10 => ?_) (fun hq_10 => ?_)
 ·cases hq_10
 refine aw_skip <| then_n <| aw_seq <| at_ <| ar (ro_assign ev_c) rfl <| ae3 (up_m rfl s0_9) (up_m rfl s10_9) up_h ?_; clear s0_9 s10_9 s43_9; intro e_11 s0_11 s10_11 s11_11
 refine then_n <| aw_seq <| aw_seq <| at_ <| ar (ro_assign ev_c) rfl <| ae4 (up_m rfl s0_11) (up_m rfl s10_11) (up_m rfl s11_11) up_h ?_; clear s0_11 s10_11 s11_11; intro e_12 s0_12 s10_12 s11_12 s12_12
 refine then_n <| aw_block <| aw_adopt 3 1 s11_12 ml_0 (fun m_13 e_13 hm_13 he_13 => ?_)
 have mo0_13 := m_push hm_13 ml_0
 have ml_13 := m_push_l hm_13 ml_0
 have ml_13 : _ = 1 := ml_13
 have s0_13 : evA e_13 (.tmp 0) = _ := (congrArg (fun q => evA q (.tmp 0)) he_13).trans (up_m rfl s0_12)
 have s10_13 : evA e_13 (.tmp 10) = _ := (congrArg (fun q => evA q (.tmp 10)) he_13).trans (up_m rfl s10_12)
 have s11_13 : evA e_13 (.tmp 11) = _ := (congrArg (fun q => evA q (.tmp 11)) he_13).trans up_h
 have s12_13 : evA e_13 (.tmp 12) = _ := (congrArg (fun q => evA q (.tmp 12)) he_13).trans (up_m rfl s12_12)
 clear hm_13 he_13
 refine aw_loop (S := (Int × List Int)) (fun s e mem => match s with | ⟨i, xs⟩ => (evA e (.tmp 12) = .v (.int .i64 i)) ∧ (evA e (.tmp 0) = evA e_13 (.tmp 0)) ∧ (evA e (.tmp 10) = evA e_13 (.tmp 10)) ∧ (∃ j, evA e (.tmp 11) = .own j ∧ mem[j]? = some (.row 3 1 (xs.map iE)) ∧ True) ∧ (∃ n, mem.length = n ∧ 1 ≤ n) ∧ ((1 ≤ i ∧ i ≤ 4 ∧ xs = nums ws i.toNat ∧ ∀ k : Nat, 1 ≤ k → (k : Int) < i → chkN ws k = none))) (fun s => match s with | ⟨i, xs⟩ => (4 - i).toNat) ⟨1, []⟩ ⟨s12_13, rfl, rfl, ⟨_, s11_13, mo0_13, trivial⟩, ⟨_, ml_13, Nat.le_refl _⟩, ?_⟩ ?_
 ·exact ⟨by omega, by omega, rfl, fun k h1 h2 => by omega⟩
 ·rintro ⟨i, xs⟩ e_14 m_14 ⟨s12_14, k0_14, k10_14, ⟨j11_14, s11_14, mo_j11_14, -⟩, ⟨n_14, ml_14, hn_14⟩, hinv⟩
  have s0_14 := k0_14.trans s0_13
  have s10_14 := k10_14.trans s10_13
  have jl11_14 := m_lt mo_j11_14 ml_14
  (obtain ⟨p1, p2, p3, p4⟩ := hinv; have hxl : xs.length ≤ 3 := (by rw [p3]; simp [nums]; omega))
  refine aw_seq <| aw_seq <| at_ <| ar (ro_move s12_14) rfl <| ar (ro_leq up_h ev_c) rfl <| ae5 (u2 rfl s0_14) (u2 rfl s10_14) (u2 rfl s11_14) (u2 rfl s12_14) up_h ?_; clear s0_14 s10_14 s11_14 s12_14; intro e_15 s0_15 s10_15 s11_15 s12_15 s70_15
  refine then_n <| aw_case s70_15 (fun hq_16 => ?_) (fun hq_16 => ?_)
  ·replace hq_16 := bt hq_16
   refine aw_skip <| then_n <| aw_seq <| aw_block <| aw_seq <| aw_seq <| at_ <| ar (ro_move s0_15) rfl <| ar (ro_eq (ro_len_row up_h rfl z31_sl106.1) (by simp only [lnS] <;> rfl)) rfl ?_
   refine ar (ro_move (u2 rfl s12_15)) rfl <| ar (ro_leq (up_m rfl up_h) up_h) rfl <| ae5 (u4 rfl s0_15) (u4 rfl s10_15) (u4 rfl s11_15) (u4 rfl s12_15) up_h ?_; clear s0_15 s10_15 s11_15 s12_15 s70_15; intro e_17 s0_17 s10_17 s11_17 s12_17 s76_17
   refine then_n <| aw_case s76_17 (fun hq_18 => ?_) (fun hq_18 => ?_)
   ·replace hq_18 := bt hq_18
    refine aw_seq <| at_ <| ar (ro_move s10_17) rfl <| ar (ro_assign ev_c) rfl <| ar (ro_assign ev_c) rfl <| ar (ro_assign ev_c) rfl <| ar (ro_assign (up_m rfl (u2 rfl up_h))) rfl <| ar (ro_assign ev_c) rfl <| ae5 (u4 rfl up_h) (up_m rfl (u2 rfl up_h)) (u2 rfl up_h) (up_m rfl up_h) up_h ?_; clear s0_17 s10_17 s11_17 s12_17 s76_17; intro e_19 s4_19 s5_19 s6_19 s7_19 s8_19
    refine then_n <| aw_ret <| then_r <| block_r <| then_r <| then_r <| block_r <| then_r <| ret5 (.inr rfl) (by kernel_rfl) (resV_tmp s4_19) (resV_tmp s5_19) (resV_tmp s6_19) (resV_tmp s7_19) (resV_tmp s8_19) (.ro _ rfl) (.nil 1) (.ro _ rfl) (.ro _ rfl) (.ro _ rfl) ?_
    clear s4_19 s5_19 s6_19 s7_19 s8_19 mo_j11_14 ml_14
    (rw [lerP_at q2 p1 (by omega) p4 (chkN_len (by omega) (by omega))]; rfl)
   replace hq_18 := bf hq_18
   (have hN := number_ok (bs (ws.getD i.toNat default).t) 11 (by decide) (by rw [bsA]; exact (hw i.toNat (by omega)).1); rw [bsA] at hN)
   refine aw_skip <| then_n <| aw_seq <| at_ <| ar (ro_move s0_17) rfl <| ar (ro_move (up_m rfl s12_17)) rfl <| ar (ro_eq (ro_ix z31_sl106 (up_m rfl up_h) up_h (by omega) (by first | (refine idx_map ?_; first | omega | (simp only [lnS]; omega)) | (refine idx_mapI ?_; first | omega | (simp only [lnS]; omega)) | (refine idx_mapN ?_; first | omega | (simp only [lnS]; omega)) | rfl)) (by simp only [pS, Value.cells, Nat.reduceAdd, wE, he1, one_iE, app_m] <;> rfl)) rfl ?_
   refine ar (ro_eq (ro_fld_ref z31_fl198_0 rfl up_h) (by simp only [pS, Value.cells, Nat.reduceAdd, wE, he1, one_iE, app_m] <;> rfl)) rfl ?_
   refine ar (ro_eq (ro_ld_ref z31_ty9 rfl up_h (nle rfl)) (by simp only [pS, Value.cells, Nat.reduceAdd, wE, he1, one_iE, app_m] <;> rfl)) rfl ?_
   refine ar (ro_call (evL_cons up_h (evL_cons ev_c evL_nil)) rfl (hN) z31_hcf112) rfl <| ar (ro_move up_h) rfl <| ar (ro_extract up_h rfl) rfl <| ar (ro_extract (up_m rfl up_h) rfl) rfl <| ar (ro_assign (up_m rfl up_h)) rfl <| ar (ro_assign (up_m rfl up_h)) rfl <| ae6 (up_m rfl (u2 rfl (u8 rfl s0_17))) (up_m rfl (u2 rfl (u8 rfl s10_17))) (up_m rfl (u2 rfl (u8 rfl s11_17))) (up_m rfl (u2 rfl (u8 rfl s12_17))) (up_m rfl up_h) up_h ?_; clear s0_17 s10_17 s11_17 s12_17 s76_17; intro e_20 s0_20 s10_20 s11_20 s12_20 s13_20 s14_20
   refine then_n <| aw_seq <| aw_seq <| at_ <| ar (ro_move s14_20) rfl <| ar (ro_not up_h) rfl <| ar (ro_move up_h) rfl <| al_case up_h (fun hb_21 hq_21 => ?_) (fun hb_21 hq_21 => ?_)
   ·replace hq_21 := bt' hq_21
    refine al_skip' ⟨_, rfl, .inl hb_21⟩ rfl ?_
    refine al_skip' ⟨_, rfl, .inl (up_m rfl hb_21)⟩ rfl ?_
    refine al_skip' ⟨_, rfl, .inl (u2 rfl hb_21)⟩ rfl ?_
    refine al_skip' ⟨_, rfl, .inr up_h⟩ rfl ?_
    refine al_skip' ⟨_, rfl, .inr (up_m rfl up_h)⟩ rfl ?_
    refine al_skip' ⟨_, rfl, .inl (up_m rfl (u4 rfl hb_21))⟩ rfl ?_
    refine ar (ro_pickT (u2 rfl (u4 rfl hb_21)) ev_c) rfl <| ae6 (u2 rfl (u8 rfl s0_20)) (u2 rfl (u8 rfl s10_20)) (u2 rfl (u8 rfl s11_20)) (u2 rfl (u8 rfl s12_20)) (u2 rfl (u8 rfl s13_20)) up_h ?_; clear hb_21 s0_20 s10_20 s11_20 s12_20 s13_20 s14_20; intro e_22 s0_22 s10_22 s11_22 s12_22 s13_22 s96_22
    refine then_n <| aw_true s96_22 <| aw_seq <| aw_draw 10 (by kernel_rfl) (by kernel_rfl) (by kernel_rfl) (by kernel_rfl) ?_
    refine dr (ro_move s0_22) rfl <| dr (ro_move (up_m rfl s12_22)) rfl <| dr (ro_eq (ro_ix z31_sl106 (up_m rfl up_h) up_h (by omega) (by first | (refine idx_map ?_; first | omega | (simp only [lnS]; omega)) | (refine idx_mapI ?_; first | omega | (simp only [lnS]; omega)) | (refine idx_mapN ?_; first | omega | (simp only [lnS]; omega)) | rfl)) (by simp only [pS, Value.cells, Nat.reduceAdd, wE, he1, one_iE, app_m] <;> rfl)) rfl ?_
    refine dr (ro_eq (ro_fld_ref z31_fl198_1 rfl up_h) (by simp only [pS, Value.cells, Nat.reduceAdd, wE, he1, one_iE, app_m] <;> rfl)) rfl ?_
    refine dr (ro_eq (ro_ld_ref z31_ty3 rfl up_h (nle rfl)) (by simp only [pS, Value.cells, Nat.reduceAdd, wE, he1, one_iE, app_m] <;> rfl)) rfl ?_
    refine dr (ro_assign ev_c) rfl <| dr (ro_assign ev_c) rfl <| dr (ro_assign ev_c) rfl <| dr (ro_assign (up_m rfl (u2 rfl up_h))) rfl <| dr (ro_assign ev_c) rfl <| ds_nil <| ae5 (u4 rfl up_h) (up_m rfl (u2 rfl up_h)) (u2 rfl up_h) (up_m rfl up_h) up_h ?_; clear s0_22 s10_22 s11_22 s12_22 s13_22 s96_22; intro e_24 s4_24 s5_24 s6_24 s7_24 s8_24
    refine then_n <| aw_ret <| then_r <| block_r <| then_r <| then_r <| block_r <| then_r <| ret5 (.inr rfl) (by kernel_rfl) (resV_tmp s4_24) (resV_tmp s5_24) (resV_tmp s6_24) (resV_tmp s7_24) (resV_tmp s8_24) (.ro _ rfl) (.nil 1) (.ro _ rfl) (.ro _ rfl) (.ro _ rfl) ?_
    clear s4_24 s5_24 s6_24 s7_24 s8_24 mo_j11_14 ml_14
    (rw [lerP_at q2 p1 (by omega) p4 (chkN_bad (by omega) (by omega) (ok_bad1 (by assumption)))]; rfl)
   replace hq_21 := bf' hq_21
   refine al_ro' (ro_move (up_m rfl (u2 rfl s12_20))) ⟨_, rfl, hb_21⟩ rfl ?_
   refine al_ro' (ro_neq up_h ev_c) ⟨_, rfl, (up_m rfl hb_21)⟩ rfl ?_
   refine al_ro' (ro_move up_h) ⟨_, rfl, (u2 rfl hb_21)⟩ rfl ?_
   refine al_case up_h (fun hb_25 hq_25 => ?_) (fun hb_25 hq_25 => ?_)
   ·replace hq_25 := bnt hq_25
    refine al_ro' (ro_move (u2 rfl (u4 rfl s13_20))) ⟨_, rfl, hb_25⟩ rfl ?_
    refine al_ro' (ro_lss up_h ev_c) ⟨_, rfl, (up_m rfl hb_25)⟩ rfl ?_
    refine al_ro' (ro_pickT (u2 rfl hb_25) up_h) ⟨_, rfl, (up_m rfl (u4 rfl hb_21))⟩ rfl ?_
    refine ar (ro_pickF (u2 rfl (u4 rfl hb_21)) up_h) rfl <| ae6 (u2 rfl (u8 rfl s0_20)) (u2 rfl (u8 rfl s10_20)) (u2 rfl (u8 rfl s11_20)) (u2 rfl (u8 rfl s12_20)) (u2 rfl (u8 rfl s13_20)) up_h ?_; clear hb_21 hb_25 s0_20 s10_20 s11_20 s12_20 s13_20 s14_20; intro e_26 s0_26 s10_26 s11_26 s12_26 s13_26 s96_26
    refine then_n <| aw_case s96_26 (fun hq_27 => ?_) (fun hq_27 => ?_)
    ·replace hq_27 := bt hq_27
     refine aw_seq <| aw_draw 10 (by kernel_rfl) (by kernel_rfl) (by kernel_rfl) (by kernel_rfl) ?_
     refine dr (ro_move s0_26) rfl <| dr (ro_move (up_m rfl s12_26)) rfl <| dr (ro_eq (ro_ix z31_sl106 (up_m rfl up_h) up_h (by omega) (by first | (refine idx_map ?_; first | omega | (simp only [lnS]; omega)) | (refine idx_mapI ?_; first | omega | (simp only [lnS]; omega)) | (refine idx_mapN ?_; first | omega | (simp only [lnS]; omega)) | rfl)) (by simp only [pS, Value.cells, Nat.reduceAdd, wE, he1, one_iE, app_m] <;> rfl)) rfl ?_
     refine dr (ro_eq (ro_fld_ref z31_fl198_1 rfl up_h) (by simp only [pS, Value.cells, Nat.reduceAdd, wE, he1, one_iE, app_m] <;> rfl)) rfl ?_
     refine dr (ro_eq (ro_ld_ref z31_ty3 rfl up_h (nle rfl)) (by simp only [pS, Value.cells, Nat.reduceAdd, wE, he1, one_iE, app_m] <;> rfl)) rfl ?_
     refine dr (ro_assign ev_c) rfl <| dr (ro_assign ev_c) rfl <| dr (ro_assign ev_c) rfl <| dr (ro_assign (up_m rfl (u2 rfl up_h))) rfl <| dr (ro_assign ev_c) rfl <| ds_nil <| ae5 (u4 rfl up_h) (up_m rfl (u2 rfl up_h)) (u2 rfl up_h) (up_m rfl up_h) up_h ?_; clear s0_26 s10_26 s11_26 s12_26 s13_26 s96_26; intro e_28 s4_28 s5_28 s6_28 s7_28 s8_28
     refine then_n <| aw_ret <| then_r <| block_r <| then_r <| then_r <| block_r <| then_r <| ret5 (.inr rfl) (by kernel_rfl) (resV_tmp s4_28) (resV_tmp s5_28) (resV_tmp s6_28) (resV_tmp s7_28) (resV_tmp s8_28) (.ro _ rfl) (.nil 1) (.ro _ rfl) (.ro _ rfl) (.ro _ rfl) ?_
     clear s4_28 s5_28 s6_28 s7_28 s8_28 mo_j11_14 ml_14
     (rw [lerP_at q2 p1 (by omega) p4 (chkN_bad (by omega) (by omega) (ok_bad2 (w := (ws.getD i.toNat default).t) (by omega) (by assumption) (by omega) (by omega)))]; rfl)
    replace hq_27 := bf hq_27
    refine aw_skip <| then_n <| at_ <| ar (ro_move s11_26) rfl <| ar (ro_move (up_m rfl s13_26)) rfl <| ar (ro_lit z31_sl76 (evP_cons up_h evP_nil) rfl rfl rfl rfl) rfl <| al_stm (st_app z31_sl76 rfl ml_14 mo_j11_14 (u2 rfl up_h) up_h (by rfl) (by simp only [lnS] <;> omega)) trivial rfl (fun m_29 hm_29 => ?_)
    have mon_14_29 := m_swap hm_29 ml_14
    simp only [pS, Value.cells, Nat.reduceAdd, wE, he1, one_iE, app_m] at mon_14_29
    have ml_29 := m_swap_l hm_29 ml_14
    clear hm_29 mo_j11_14
    refine ar (ro_assign up_h) rfl <| ae4 (up_m rfl (u4 rfl s0_26)) (up_m rfl (u4 rfl s10_26)) up_h (up_m rfl (u4 rfl s12_26)) ?_; clear s0_26 s10_26 s11_26 s12_26 s13_26 s96_26; intro e_30 s0_30 s10_30 s11_30 s12_30
    refine block_n <| then_n <| at_ <| ar (ro_move s12_30) rfl ?_
    (refine ar (ro_add' up_h ev_c ?_) rfl ?_; · (unfold In64; omega))
    refine ar (ro_assign up_h) rfl <| ae4 (up_m rfl (u2 rfl s0_30)) (up_m rfl (u2 rfl s10_30)) (up_m rfl (u2 rfl s11_30)) up_h ?_; clear s0_30 s10_30 s11_30 s12_30; intro e_31 s0_31 s10_31 s11_31 s12_31
    refine then_n <| ⟨⟨_, _⟩, ⟨s12_31, (s0_31.trans s0_13.symm), (s10_31.trans s10_13.symm), ⟨_, s11_31, mon_14_29, trivial⟩, ⟨_, ml_29, by omega⟩, ?_⟩, ?_⟩
    ·(have hk : numK (nth ws i.toNat).t 11 = true := (by assumption); have ho : okW (nth ws i.toNat).t (decide (i.toNat = 2)) = true := ok_two (w := (ws.getD i.toNat default).t) hk (by omega); exact ⟨by omega, by omega, by (rw [show (i + 1).toNat = i.toNat + 1 by omega, nums_step ws (by omega), p3, show numR (ws.getD i.toNat default).t 11 = numN (nth ws i.toNat).t from numR_yes' hk]), fun k a b => if hki : k = i.toNat then (by rw [hki]; exact chkN_ok (by omega) (by omega) ho) else p4 k a (by omega)⟩)
    ·((try dsimp only); omega)
   replace hq_25 := bnf hq_25
   refine al_skip' ⟨_, rfl, .inl hb_25⟩ rfl ?_
   refine al_skip' ⟨_, rfl, .inl (up_m rfl hb_25)⟩ rfl ?_
   refine al_ro' (ro_pickF (u2 rfl hb_25) ev_c) ⟨_, rfl, (up_m rfl (u4 rfl hb_21))⟩ rfl ?_
   refine ar (ro_pickF (u2 rfl (u4 rfl hb_21)) up_h) rfl <| ae6 (u2 rfl (u8 rfl s0_20)) (u2 rfl (u8 rfl s10_20)) (u2 rfl (u8 rfl s11_20)) (u2 rfl (u8 rfl s12_20)) (u2 rfl (u8 rfl s13_20)) up_h ?_; clear hb_21 hb_25 s0_20 s10_20 s11_20 s12_20 s13_20 s14_20; intro e_32 s0_32 s10_32 s11_32 s12_32 s13_32 s96_32
   refine then_n <| aw_false s96_32 <| aw_skip <| then_n <| at_ <| ar (ro_move s11_32) rfl <| ar (ro_move (up_m rfl s13_32)) rfl <| ar (ro_lit z31_sl76 (evP_cons up_h evP_nil) rfl rfl rfl rfl) rfl <| al_stm (st_app z31_sl76 rfl ml_14 mo_j11_14 (u2 rfl up_h) up_h (by rfl) (by simp only [lnS] <;> omega)) trivial rfl (fun m_34 hm_34 => ?_)
   have mon_14_34 := m_swap hm_34 ml_14
   simp only [pS, Value.cells, Nat.reduceAdd, wE, he1, one_iE, app_m] at mon_14_34
   have ml_34 := m_swap_l hm_34 ml_14
   clear hm_34 mo_j11_14
   refine ar (ro_assign up_h) rfl <| ae4 (up_m rfl (u4 rfl s0_32)) (up_m rfl (u4 rfl s10_32)) up_h (up_m rfl (u4 rfl s12_32)) ?_; clear s0_32 s10_32 s11_32 s12_32 s13_32 s96_32; intro e_35 s0_35 s10_35 s11_35 s12_35
   refine block_n <| then_n <| at_ <| ar (ro_move s12_35) rfl ?_
   (refine ar (ro_add' up_h ev_c ?_) rfl ?_; · (unfold In64; omega))
   refine ar (ro_assign up_h) rfl <| ae4 (up_m rfl (u2 rfl s0_35)) (up_m rfl (u2 rfl s10_35)) (up_m rfl (u2 rfl s11_35)) up_h ?_; clear s0_35 s10_35 s11_35 s12_35; intro e_36 s0_36 s10_36 s11_36 s12_36
   refine then_n <| ⟨⟨_, _⟩, ⟨s12_36, (s0_36.trans s0_13.symm), (s10_36.trans s10_13.symm), ⟨_, s11_36, mon_14_34, trivial⟩, ⟨_, ml_34, by omega⟩, ?_⟩, ?_⟩
   ·(have hk : numK (nth ws i.toNat).t 11 = true := (by assumption); have ho : okW (nth ws i.toNat).t (decide (i.toNat = 2)) = true := ok_two (w := (ws.getD i.toNat default).t) hk (by omega); exact ⟨by omega, by omega, by (rw [show (i + 1).toNat = i.toNat + 1 by omega, nums_step ws (by omega), p3, show numR (ws.getD i.toNat default).t 11 = numN (nth ws i.toNat).t from numR_yes' hk]), fun k a b => if hki : k = i.toNat then (by rw [hki]; exact chkN_ok (by omega) (by omega) ho) else p4 k a (by omega)⟩)
   ·((try dsimp only); omega)
  replace hq_16 := bf hq_16
  refine aw_exit <| then_x <| then_x <| block_hit <| then_n <| aw_seq <| at_ <| ar (ro_move s0_15) rfl <| ar (ro_eq (ro_len_row up_h rfl z31_sl106.1) (by simp only [lnS] <;> rfl)) rfl ?_
  refine ar (ro_gtr up_h ev_c) rfl <| ar (ro_assign up_h) rfl <| ae3 (u4 rfl s0_15) (u4 rfl s11_15) up_h ?_; clear s0_15 s10_15 s11_15 s12_15 s70_15; intro e_37 s0_37 s11_37 s15_37
  refine then_n <| aw_seq <| aw_seq <| at_ <| ar (ro_move s15_37) rfl <| ar (ro_move up_h) rfl <| al_case up_h (fun hb_38 hq_38 => ?_) (fun hb_38 hq_38 => ?_)
  ·replace hq_38 := bt hq_38
   refine al_ro' (ro_move (u2 rfl s0_37)) ⟨_, rfl, hb_38⟩ rfl ?_
   refine al_ro' (ro_eq (ro_ix z31_sl106 up_h ev_c (by decide) (by refine idx_map ?_; first | omega | (simp only [lnS]; omega))) (by simp only [pS, Value.cells, Nat.reduceAdd, wE, he1, one_iE, app_m] <;> rfl)) ⟨_, rfl, (up_m rfl hb_38)⟩ rfl ?_
   refine al_ro' (ro_eq (ro_fld_ref z31_fl198_0 rfl up_h) (by simp only [pS, Value.cells, Nat.reduceAdd, wE, he1, one_iE, app_m] <;> rfl)) ⟨_, rfl, (u2 rfl hb_38)⟩ rfl ?_
   refine al_ro' (ro_eq (ro_ld_ref z31_ty9 rfl up_h (nle rfl)) (by simp only [pS, Value.cells, Nat.reduceAdd, wE, he1, one_iE, app_m] <;> rfl)) ⟨_, rfl, (up_m rfl (u2 rfl hb_38))⟩ rfl ?_
   refine al_ro' (ro_sneq up_h ev_c) ⟨_, rfl, (u4 rfl hb_38)⟩ rfl ?_
   refine ar (ro_pickT (up_m rfl (u4 rfl hb_38)) up_h) rfl <| ae4 (u8 rfl s0_37) (u8 rfl s11_37) (u8 rfl s15_37) up_h ?_; clear hb_38 s0_37 s11_37 s15_37; intro e_39 s0_39 s11_39 s15_39 s116_39
   refine then_n <| aw_case s116_39 (fun hq_40 => ?_) (fun hq_40 => ?_)
   ·replace hq_40 := bt' hq_40
    have q7 : (nth ws 4).t ≠ wLeave := (by have h_ := hq_40; simp only [w_leave, bs_toList] at h_; simpa [nth] using h_)
    refine aw_seq <| aw_draw 9 (by kernel_rfl) (by kernel_rfl) (by kernel_rfl) (by kernel_rfl) ?_
    refine dr (ro_move s0_39) rfl <| dr (ro_eq (ro_ix z31_sl106 up_h ev_c (by decide) (by refine idx_map ?_; first | omega | (simp only [lnS]; omega))) (by simp only [pS, Value.cells, Nat.reduceAdd, wE, he1, one_iE, app_m] <;> rfl)) rfl ?_
    refine dr (ro_eq (ro_fld_ref z31_fl198_1 rfl up_h) (by simp only [pS, Value.cells, Nat.reduceAdd, wE, he1, one_iE, app_m] <;> rfl)) rfl ?_
    refine dr (ro_eq (ro_ld_ref z31_ty3 rfl up_h (nle rfl)) (by simp only [pS, Value.cells, Nat.reduceAdd, wE, he1, one_iE, app_m] <;> rfl)) rfl ?_
    refine dr (ro_assign ev_c) rfl <| dr (ro_assign ev_c) rfl <| dr (ro_assign ev_c) rfl <| dr (ro_assign (up_m rfl (u2 rfl up_h))) rfl <| dr (ro_assign ev_c) rfl <| ds_nil <| ae5 (u4 rfl up_h) (up_m rfl (u2 rfl up_h)) (u2 rfl up_h) (up_m rfl up_h) up_h ?_; clear s0_39 s116_39 s11_39 s15_39; intro e_41 s4_41 s5_41 s6_41 s7_41 s8_41
    refine then_n <| aw_ret <| then_r <| ret5 (.inr rfl) (by kernel_rfl) (resV_tmp s4_41) (resV_tmp s5_41) (resV_tmp s6_41) (resV_tmp s7_41) (resV_tmp s8_41) (.ro _ rfl) (.nil 1) (.ro _ rfl) (.ro _ rfl) (.ro _ rfl) ?_
    clear s4_41 s5_41 s6_41 s7_41 s8_41 mo_j11_14 ml_14
    (rw [lerP_end q2 (fun k a b => p4 k a (by omega))]; unfold lerT; rw [if_pos ⟨by omega, q7⟩]; rfl)
   replace hq_40 := bf' hq_40
   have q7 : (nth ws 4).t = wLeave := (by have h_ := hq_40; simp only [w_leave, bs_toList] at h_; simpa [nth] using h_)
   refine aw_skip <| then_n <| aw_seq <| aw_seq <| at_ <| ar (ro_move s0_39) rfl <| ar (ro_eq (ro_len_row up_h rfl z31_sl106.1) (by simp only [lnS] <;> rfl)) rfl ?_
   refine ar (ro_gtr up_h ev_c) rfl <| ae4 (up_m rfl (u2 rfl s0_39)) (up_m rfl (u2 rfl s11_39)) (up_m rfl (u2 rfl s15_39)) up_h ?_; clear s0_39 s116_39 s11_39 s15_39; intro e_42 s0_42 s11_42 s15_42 s123_42
   refine then_n <| aw_case s123_42 (fun hq_43 => ?_) (fun hq_43 => ?_)
   ·replace hq_43 := bt hq_43
    refine aw_seq <| aw_draw 9 (by kernel_rfl) (by kernel_rfl) (by kernel_rfl) (by kernel_rfl) ?_
    refine dr (ro_move s0_42) rfl <| dr (ro_eq (ro_ix z31_sl106 up_h ev_c (by decide) (by refine idx_map ?_; first | omega | (simp only [lnS]; omega))) (by simp only [pS, Value.cells, Nat.reduceAdd, wE, he1, one_iE, app_m] <;> rfl)) rfl ?_
    refine dr (ro_eq (ro_fld_ref z31_fl198_1 rfl up_h) (by simp only [pS, Value.cells, Nat.reduceAdd, wE, he1, one_iE, app_m] <;> rfl)) rfl ?_
    refine dr (ro_eq (ro_ld_ref z31_ty3 rfl up_h (nle rfl)) (by simp only [pS, Value.cells, Nat.reduceAdd, wE, he1, one_iE, app_m] <;> rfl)) rfl ?_
    refine dr (ro_assign ev_c) rfl <| dr (ro_assign ev_c) rfl <| dr (ro_assign ev_c) rfl <| dr (ro_assign (up_m rfl (u2 rfl up_h))) rfl <| dr (ro_assign ev_c) rfl <| ds_nil <| ae5 (u4 rfl up_h) (up_m rfl (u2 rfl up_h)) (u2 rfl up_h) (up_m rfl up_h) up_h ?_; clear s0_42 s11_42 s123_42 s15_42; intro e_44 s4_44 s5_44 s6_44 s7_44 s8_44
    refine then_n <| aw_ret <| then_r <| ret5 (.inr rfl) (by kernel_rfl) (resV_tmp s4_44) (resV_tmp s5_44) (resV_tmp s6_44) (resV_tmp s7_44) (resV_tmp s8_44) (.ro _ rfl) (.nil 1) (.ro _ rfl) (.ro _ rfl) (.ro _ rfl) ?_
    clear s4_44 s5_44 s6_44 s7_44 s8_44 mo_j11_14 ml_14
    (rw [lerP_end q2 (fun k a b => p4 k a (by omega))]; unfold lerT; rw [if_neg (fun h_ => h_.2 q7), if_pos (by omega)]; rfl)
   replace hq_43 := bf hq_43
   refine aw_skip <| then_n <| aw_seq <| at_ <| ar (ro_move s11_42) rfl <| ar (ro_move (up_m rfl s15_42)) rfl <| ar (ro_assign ev_c) rfl <| ar (ro_assign (u2 rfl up_h)) rfl <| ar (ro_assign (u2 rfl up_h)) rfl <| ar (ro_assign ev_c) rfl <| ar (ro_assign ev_c) rfl <| ae5 (u4 rfl up_h) (up_m rfl (u2 rfl up_h)) (u2 rfl up_h) (up_m rfl up_h) up_h ?_; clear s0_42 s11_42 s123_42 s15_42; intro e_45 s4_45 s5_45 s6_45 s7_45 s8_45
   refine then_n <| aw_ret <| ret5 (.inr rfl) (by kernel_rfl) (resV_tmp s4_45) (resV_tmp s5_45) (resV_tmp s6_45) (resV_tmp s7_45) (resV_tmp s8_45) (.ro _ rfl) (.own _ _ _ _ mo_j11_14) (.ro _ rfl) (.ro _ rfl) (.ro _ rfl) ?_
   clear s4_45 s5_45 s6_45 s7_45 s8_45 mo_j11_14 ml_14
   (rw [lerP_end q2 (fun k a b => p4 k a (by omega))]; unfold lerT; rw [if_neg (fun h_ => h_.2 q7), if_neg (by omega), p3, show i.toNat = 4 by omega, decide_eq_true (by omega : 4 < ws.length), decide_eq_true (by omega : (4 : Int) < ws.length)]; rfl)
  replace hq_38 := bf hq_38
  refine al_skip' ⟨_, rfl, .inl hb_38⟩ rfl ?_
  refine al_skip' ⟨_, rfl, .inl (up_m rfl hb_38)⟩ rfl ?_
  refine al_skip' ⟨_, rfl, .inl (u2 rfl hb_38)⟩ rfl ?_
  refine al_skip' ⟨_, rfl, .inl (up_m rfl (u2 rfl hb_38))⟩ rfl ?_
  refine al_skip' ⟨_, rfl, .inl (u4 rfl hb_38)⟩ rfl ?_
  refine ar (ro_pickF (up_m rfl (u4 rfl hb_38)) ev_c) rfl <| ae4 (u8 rfl s0_37) (u8 rfl s11_37) (u8 rfl s15_37) up_h ?_; clear hb_38 s0_37 s11_37 s15_37; intro e_46 s0_46 s11_46 s15_46 s116_46
  refine then_n <| aw_false s116_46 <| aw_skip <| then_n <| aw_seq <| aw_seq <| at_ <| ar (ro_move s0_46) rfl <| ar (ro_eq (ro_len_row up_h rfl z31_sl106.1) (by simp only [lnS] <;> rfl)) rfl ?_
  refine ar (ro_gtr up_h ev_c) rfl <| ae4 (up_m rfl (u2 rfl s0_46)) (up_m rfl (u2 rfl s11_46)) (up_m rfl (u2 rfl s15_46)) up_h ?_; clear s0_46 s116_46 s11_46 s15_46; intro e_48 s0_48 s11_48 s15_48 s123_48
  refine then_n <| aw_case s123_48 (fun hq_49 => ?_) (fun hq_49 => ?_)
  ·replace hq_49 := bt hq_49; exfalso; omega
  replace hq_49 := bf hq_49
  refine aw_skip <| then_n <| aw_seq <| at_ <| ar (ro_move s11_48) rfl <| ar (ro_move (up_m rfl s15_48)) rfl <| ar (ro_assign ev_c) rfl <| ar (ro_assign (u2 rfl up_h)) rfl <| ar (ro_assign (u2 rfl up_h)) rfl <| ar (ro_assign ev_c) rfl <| ar (ro_assign ev_c) rfl <| ae5 (u4 rfl up_h) (up_m rfl (u2 rfl up_h)) (u2 rfl up_h) (up_m rfl up_h) up_h ?_; clear s0_48 s11_48 s123_48 s15_48; intro e_51 s4_51 s5_51 s6_51 s7_51 s8_51
  refine then_n <| aw_ret <| ret5 (.inr rfl) (by kernel_rfl) (resV_tmp s4_51) (resV_tmp s5_51) (resV_tmp s6_51) (resV_tmp s7_51) (resV_tmp s8_51) (.ro _ rfl) (.own _ _ _ _ mo_j11_14) (.ro _ rfl) (.ro _ rfl) (.ro _ rfl) ?_
  clear s4_51 s5_51 s6_51 s7_51 s8_51 mo_j11_14 ml_14
  (rw [lerP_end q2 (fun k a b => p4 k a (by omega))]; unfold lerT; rw [if_neg (by omega), if_neg (by omega), p3, show i.toNat = 4 by omega, decide_eq_false (by omega : ¬ 4 < ws.length), decide_eq_false (by omega : ¬ (4 : Int) < ws.length)]; rfl)
theorem skp_idem (r : List UInt8) : skp (skp r) = skp r := by
 unfold skp
 generalize hq : List.dropWhile blk r = q
 cases q with
 | nil => rfl
 | cons x q =>
  have : blk x = false := by
   have h3 := List.head?_dropWhile_not blk r
   rw [hq] at h3
   simpa using h3
  simp [List.dropWhile, this]
theorem rst_drop (l : List UInt8) (a : Nat) : l.drop (posW l a) = rstW l a := by
 have h : rstW l a <:+ l := (List.dropWhile_suffix _).trans (List.drop_suffix _ _)
 exact (List.suffix_iff_eq_drop.1 h).symm
theorem rst_idem (l : List UInt8) (a : Nat) : rstW l (posW l a) = rstW l a := by
 show skp (l.drop (posW l a)) = _
 rw [rst_drop]
 exact skp_idem _
theorem nxt_idem (l : List UInt8) (a : Nat) : nxtW l (posW l a) = nxtW l a := by unfold nxtW; rw [rst_idem]
theorem pos_idem (l : List UInt8) (a : Nat) : posW l (posW l a) = posW l a := by
 show l.length - (rstW l (posW l a)).length = _
 rw [rst_idem]; rfl
theorem wds_pos {l : List UInt8} {a : Nat} (ha : a ≤ l.length) : wdsAt l (posW l a) = wdsAt l a := by
 have hp : posW l a ≤ l.length := by unfold posW; omega
 by_cases h : nxtW l a = []
 ·rw [wdsAt_nil hp (by rw [nxt_idem]; exact h), wdsAt_nil ha h]
 ·rw [wdsAt_cons hp (by rw [nxt_idem]; exact h), wdsAt_cons ha h, nxt_idem, pos_idem]
structure At (l : List UInt8) (ws : List Wd) (i : Int) (s : Scn) (k : Nat) (r : Int × Int) : Prop where
 le : s.a ≤ l.length
 rest : wdsAt l s.a = ws.drop k
 en : r.2 = 0 → 0 < k → k ≤ ws.length ∧ s.en = (nth ws (k - 1)).c + (nth ws (k - 1)).t.length
 ln : s.ln = i
 e : s.e = r.2
 mc : s.mc = r.1
 ml : s.ml = if r.2 = 0 then 0 else i
def tkR (ws : List Wd) (k : Nat) (ok : Bool) (e : Int) (r : Int × Int) : Int × Int := if r.2 ≠ 0 then r else if ws.length ≤ k then (endW ws, 6) else if ok then r else ((nth ws k).c, e)
def stR (ws : List Wd) (k : Nat) (r : Int × Int) : Int × Int := if r.2 ≠ 0 then r else if ws.length ≤ k then r else ((nth ws k).c, 7)
theorem nth_get {ws : List Wd} {k : Nat} (hk : k < ws.length) : ws.drop k = nth ws k :: ws.drop (k + 1) := by
 rw [List.drop_eq_getElem_cons hk]
 congr 1
 unfold nth
 rw [List.getD_eq_getElem?_getD, List.getElem?_eq_getElem hk]; rfl
section
variable {l : List UInt8} {ws : List Wd} {i : Int} {s : Scn} {k : Nat} {r : Int × Int}
theorem At.nx1 (h : At l ws i s k r) (hk : k < ws.length) : nxtW l s.a = (nth ws k).t ∧ nxtW l s.a ≠ [] ∧ (posW l s.a : Int) + 1 = (nth ws k).c ∧ wdsAt l (posW l s.a + (nxtW l s.a).length) = ws.drop (k + 1) := by
 have h1 := h.rest
 rw [nth_get hk] at h1
 by_cases h0 : nxtW l s.a = []
 ·rw [wdsAt_nil h.le h0] at h1; cases h1
 ·rw [wdsAt_cons h.le h0] at h1
  have h2 := (List.cons.inj h1).1
  exact ⟨by rw [← h2], h0, by rw [← h2], (List.cons.inj h1).2⟩
theorem At.nx0 (h : At l ws i s k r) (hk : ws.length ≤ k) : nxtW l s.a = [] := by
 have h1 := h.rest
 rw [List.drop_eq_nil_of_le hk] at h1
 by_cases h0 : nxtW l s.a = []
 ·exact h0
 ·rw [wdsAt_cons h.le h0] at h1; cases h1
theorem At.nil (h : At l ws i s k r) : nxtW l s.a = [] ↔ ws.length ≤ k := by
 constructor
 ·intro h0
  rcases Nat.lt_or_ge k ws.length with h1 | h1
  ·exact absurd h0 (h.nx1 h1).2.1
  ·exact h1
 ·exact h.nx0
theorem At.pek (h : At l ws i s k r) : At l ws i (pekS l s) k r := by
 refine ⟨?_, ?_, h.en, h.ln, h.e, h.mc, h.ml⟩
 ·show posW l s.a ≤ _; unfold posW; omega
 ·show wdsAt l (posW l s.a) = _; rw [wds_pos h.le]; exact h.rest
theorem fail_e1 {s : Scn} {c e : Int} (h : s.e = 0) : failS s c e = { s with ml := s.ln, mc := c, e := e } := by unfold failS; rw [if_pos h]
theorem fail_e2 {s : Scn} {c e : Int} (h : s.e ≠ 0) : failS s c e = s := by unfold failS; rw [if_neg h]
theorem At.tak (h : At l ws i s k r) (hw : 0 < ws.length) {ok : Bool} {e : Int} (he : e ≠ 0) : At l ws i (takS l s ok e) (k + 1) (tkR ws k ok e r) := by
 have hpa : (pekS l s).a = posW l s.a := rfl
 have hpe : (pekS l s).e = r.2 := h.e
 have hpl : (pekS l s).ln = i := h.ln
 have key : ∀ s2, s2 = (if nxtW l s.a = [] then failS (pekS l s) (pekS l s).en 6 else if ok then pekS l s else failS (pekS l s) ((pekS l s).a + 1) e) → s2.e = (tkR ws k ok e r).2 ∧ s2.mc = (tkR ws k ok e r).1 ∧ s2.ml = (if (tkR ws k ok e r).2 = 0 then 0 else i) ∧ s2.ln = i := by
  intro s2 hs2
  by_cases h1 : r.2 = 0
  ·by_cases h2 : ws.length ≤ k
   ·rw [if_pos (h.nx0 h2), fail_e1 (hpe.trans h1)] at hs2
    have ht : tkR ws k ok e r = (endW ws, 6) := by unfold tkR; rw [if_neg (fun hh => hh h1), if_pos h2]
    rw [ht]
    have h4 := h.en h1 (by omega)
    have h5 : k = ws.length := by omega
    subst h5 hs2
    exact ⟨rfl, h4.2, hpl, hpl⟩
   ·have h3 := h.nx1 (by omega)
    rw [if_neg h3.2.1] at hs2
    cases ok with
    | true =>
     have ht : tkR ws k true e r = r := by unfold tkR; rw [if_neg (fun hh => hh h1), if_neg h2, if_pos rfl]
     rw [if_pos rfl] at hs2
     subst hs2
     rw [ht]
     exact ⟨h.e, h.mc, h.ml, hpl⟩
    | false =>
     have ht : tkR ws k false e r = ((nth ws k).c, e) := by unfold tkR; rw [if_neg (fun hh => hh h1), if_neg h2, if_neg (by decide)]
     rw [if_neg (by decide), fail_e1 (hpe.trans h1)] at hs2
     subst hs2
     rw [ht]
     exact ⟨rfl, h3.2.2.1, by rw [if_neg he]; exact hpl, hpl⟩
  ·have ht : tkR ws k ok e r = r := by unfold tkR; rw [if_pos h1]
   rw [fail_e2 (by rw [hpe]; exact h1), fail_e2 (by rw [hpe]; exact h1), ite_self, ite_self] at hs2
   subst hs2
   rw [ht]
   exact ⟨h.e, h.mc, h.ml, hpl⟩
 obtain ⟨k1, k2, k3, k4⟩ := key _ rfl
 refine ⟨tak_le l s ok e, ?_, ?_, k4, k1, k2, k3⟩
 ·show wdsAt l (posW l s.a + (nxtW l s.a).length) = _
  rcases Nat.lt_or_ge k ws.length with h1 | h1
  ·exact (h.nx1 h1).2.2.2
  ·rw [h.nx0 h1]
   show wdsAt l (posW l s.a) = _
   rw [wds_pos h.le, h.rest, List.drop_eq_nil_of_le h1, List.drop_eq_nil_of_le (by omega)]
 ·intro hr _
  unfold tkR at hr
  by_cases h1 : r.2 = 0
  ·rw [if_neg (fun hh => hh h1)] at hr
   by_cases h2 : ws.length ≤ k
   ·rw [if_pos h2] at hr; cases hr
   ·have h3 := h.nx1 (by omega)
    refine ⟨by omega, ?_⟩
    show (posW l s.a : Int) + (nxtW l s.a).length + 1 = _
    rw [show k + 1 - 1 = k by omega, ← h3.2.2.1, ← h3.1]; omega
  ·rw [if_pos h1] at hr; exact absurd hr h1
theorem At.stp (h : At l ws i s k r) : At l ws i (stpS l s) k (stR ws k r) := by
 unfold stpS stR
 have hpe : (pekS l s).e = r.2 := h.e
 by_cases h2 : ws.length ≤ k
 ·rw [if_pos (h.nx0 h2), if_pos h2, ite_self]; exact h.pek
 ·have h3 := h.nx1 (by omega)
  rw [if_neg h3.2.1, if_neg h2]
  by_cases h1 : r.2 = 0
  ·rw [if_neg (by simpa using h1), fail_e1 (hpe.trans h1)]
   exact ⟨h.pek.le, h.pek.rest, (fun hh => by cases hh), h.ln, rfl, h3.2.2.1, h.ln⟩
  ·rw [if_pos h1, fail_e2 (by rw [hpe]; exact h1)]; exact h.pek
theorem At.ok (h : At l ws i s k r) (f : List UInt8 → Bool) (e : Int) : tkR ws k (f (nxtW l s.a)) e r = tkR ws k (f (nth ws k).t) e r := by
 unfold tkR
 by_cases h2 : ws.length ≤ k
 ·simp only [if_pos h2]
 ·rw [(h.nx1 (by omega)).1]
end
theorem at_start (l : List UInt8) (i : Int) : At l (wdsAt l 0) i (pekS l (scn0 i)) 0 (0, 0) :=
 At.pek ⟨Nat.zero_le _, by rw [List.drop_zero]; rfl, fun _ h => absurd h (by omega), rfl, rfl, rfl, rfl⟩
theorem hd_ler (l : List UInt8) (i : Int) (hw : 0 < (wdsAt l 0).length) : At l (wdsAt l 0) i (hdS l (pekS l (scn0 i))) 2 ((lerH (wdsAt l 0)).c, (lerH (wdsAt l 0)).e) ∧ ((lerH (wdsAt l 0)).e = 0 → hdN l (pekS l (scn0 i)) = (lerH (wdsAt l 0)).nm) := by
 have h0 := at_start l i
 generalize wdsAt l 0 = ws at h0 hw ⊢
 have h1 := h0.tak hw (ok := nxtW l (pekS l (scn0 i)).a == wTrack) (e := 7) (by decide)
 rw [h0.ok (fun x => x == wTrack)] at h1
 replace h1 : At l ws i (wrdS l (pekS l (scn0 i)) wTrack) (0 + 1) (tkR ws 0 ((nth ws 0).t == wTrack) 7 (0, 0)) := h1
 have h2 := h1.tak hw (ok := isNameB (bs (nxtW l (wrdS l (pekS l (scn0 i)) wTrack).a))) (e := 4) (by decide)
 rw [h1.ok (fun x => isNameB (bs x))] at h2
 have h3 := h2.stp
 have hn : 1 < ws.length → hdN l (pekS l (scn0 i)) = (nth ws 1).t := fun hh => (h1.nx1 hh).1
 have key : stR ws (0 + 1 + 1) (tkR ws (0 + 1) (isNameB (bs (nth ws (0 + 1)).t)) 4 (tkR ws 0 ((nth ws 0).t == wTrack) 7 (0, 0))) = ((lerH ws).c, (lerH ws).e) ∧ ((lerH ws).e = 0 → 1 < ws.length ∧ (lerH ws).nm = (nth ws 1).t) := by
  unfold lerH
  by_cases c0 : (nth ws 0).t = wTrack
  ·rw [if_neg (by simpa using c0)]
   have e1 : tkR ws 0 ((nth ws 0).t == wTrack) 7 (0, 0) = (0, 0) := by unfold tkR; rw [if_neg (by decide), if_neg (by omega), if_pos (by rw [c0]; decide)]
   rw [e1]
   by_cases c1 : ws.length < 2
   ·rw [if_pos c1]
    have e2 : tkR ws (0 + 1) (isNameB (bs (nth ws (0 + 1)).t)) 4 (0, 0) = (endW ws, 6) := by unfold tkR; rw [if_neg (by decide), if_pos (by omega)]
    rw [e2]
    exact ⟨by unfold stR; rw [if_pos (by show (6 : Int) ≠ 0; decide)]; rfl, fun hh => by cases hh⟩
   ·rw [if_neg c1]
    by_cases c2 : isNameB (bs (nth ws 1).t) = false
    ·rw [if_pos c2]
     have e2 : tkR ws (0 + 1) (isNameB (bs (nth ws (0 + 1)).t)) 4 (0, 0) = ((nth ws 1).c, 4) := by unfold tkR; rw [if_neg (by decide), if_neg (by omega), show nth ws (0 + 1) = nth ws 1 from rfl, c2, if_neg (by decide)]
     rw [e2]
     exact ⟨by unfold stR; rw [if_pos (by show (4 : Int) ≠ 0; decide)]; rfl, fun hh => by cases hh⟩
    ·rw [if_neg c2]
     have e2 : tkR ws (0 + 1) (isNameB (bs (nth ws (0 + 1)).t)) 4 (0, 0) = (0, 0) := by unfold tkR; rw [if_neg (by decide), if_neg (by omega), show nth ws (0 + 1) = nth ws 1 from rfl, if_pos (by simpa using c2)]
     rw [e2]
     by_cases c3 : 2 < ws.length
     ·rw [if_pos c3]
      exact ⟨by unfold stR; rw [if_neg (by decide), if_neg (by omega)]; rfl, fun hh => by cases hh⟩
     ·rw [if_neg c3]
      exact ⟨by unfold stR; rw [if_neg (by decide), if_pos (by omega)], fun _ => ⟨by omega, rfl⟩⟩
  ·rw [if_pos c0]
   have e1 : tkR ws 0 ((nth ws 0).t == wTrack) 7 (0, 0) = ((nth ws 0).c, 7) := by unfold tkR; rw [if_neg (by decide), if_neg (by omega), if_neg (by simpa using c0)]
   rw [e1]
   have e2 : tkR ws (0 + 1) (isNameB (bs (nth ws (0 + 1)).t)) 4 ((nth ws 0).c, 7) = ((nth ws 0).c, 7) := by unfold tkR; rw [if_pos (by show (7 : Int) ≠ 0; decide)]
   rw [e2]
   exact ⟨by unfold stR; rw [if_pos (by show (7 : Int) ≠ 0; decide)]; rfl, fun hh => by cases hh⟩
 refine ⟨?_, fun hh => ?_⟩
 ·rw [← key.1]; exact h3
 ·have := key.2 hh
  rw [hn this.1, this.2]
theorem tk_stay {ws : List Wd} {k : Nat} {ok : Bool} {e : Int} {r : Int × Int} (h : r.2 ≠ 0) : tkR ws k ok e r = r := by unfold tkR; rw [if_pos h]
theorem st_stay {ws : List Wd} {k : Nat} {r : Int × Int} (h : r.2 ≠ 0) : stR ws k r = r := by unfold stR; rw [if_pos h]
theorem tk_chk (ws : List Wd) (k : Nat) : tkR ws k (okW (nth ws k).t (decide (k = 2))) 7 (0, 0) = (chkN ws k).getD (0, 0) := by
 unfold tkR chkN
 rw [if_neg (by decide)]
 split
 ·rfl
 ·split <;> rfl
theorem chk_some {ws : List Wd} {k : Nat} {x : Int × Int} (h : chkN ws k = some x) : x.2 ≠ 0 := by
 unfold chkN at h
 split at h
 ·cases h; show (6 : Int) ≠ 0; decide
 ·split at h
  ·cases h
  ·cases h; show (7 : Int) ≠ 0; decide
theorem chk_none {ws : List Wd} {k : Nat} (h : chkN ws k = none) : k < ws.length := by
 unfold chkN at h
 split at h
 ·cases h
 ·omega
def r4R (ws : List Wd) : Int × Int := tkR ws 3 (okW (nth ws 3).t false) 7 (tkR ws 2 (okW (nth ws 2).t true) 7 (tkR ws 1 (okW (nth ws 1).t false) 7 (tkR ws 0 ((nth ws 0).t == wPiece) 7 (0, 0))))
def r6R (ws : List Wd) : Int × Int := if ws.length ≤ 4 then stR ws 4 (r4R ws) else stR ws 5 (tkR ws 4 ((nth ws 4).t == wLeave) 7 (r4R ws))
theorem r6_stay {ws : List Wd} (h : (r4R ws).2 ≠ 0) : r6R ws = r4R ws := by
 unfold r6R
 rw [tk_stay h, st_stay h, st_stay h, ite_self]
theorem r6_ler {ws : List Wd} (hw : 0 < ws.length) : r6R ws = ((lerP ws).c, (lerP ws).e) ∧ ((lerP ws).e = 0 → 3 < ws.length ∧ (lerP ws).l = [numN (nth ws 1).t, numN (nth ws 2).t, numN (nth ws 3).t] ∧ (lerP ws).lv = decide (4 < ws.length)) := by
 have t1 : ∀ r, tkR ws 1 (okW (nth ws 1).t false) 7 r = tkR ws 1 (okW (nth ws 1).t (decide (1 = 2))) 7 r := fun r => rfl
 have t2 : ∀ r, tkR ws 2 (okW (nth ws 2).t true) 7 r = tkR ws 2 (okW (nth ws 2).t (decide (2 = 2))) 7 r := fun r => rfl
 have t3 : ∀ r, tkR ws 3 (okW (nth ws 3).t false) 7 r = tkR ws 3 (okW (nth ws 3).t (decide (3 = 2))) 7 r := fun r => rfl
 by_cases c0 : (nth ws 0).t = wPiece
 ·have e0 : tkR ws 0 ((nth ws 0).t == wPiece) 7 (0, 0) = (0, 0) := by unfold tkR; rw [if_neg (by decide), if_neg (by omega), if_pos (by rw [c0]; decide)]
  have f1 : r4R ws = tkR ws 3 (okW (nth ws 3).t false) 7 (tkR ws 2 (okW (nth ws 2).t true) 7 ((chkN ws 1).getD (0, 0))) := by unfold r4R; rw [e0, t1, tk_chk]
  cases q1 : chkN ws 1 with
  | some x =>
   rw [show lerP ws = lErr x.1 x.2 by unfold lerP; rw [if_neg (by simpa using c0), q1]]
   rw [q1] at f1
   have hx := chk_some q1
   have f2 : r4R ws = x := by rw [f1, show (some x).getD ((0 : Int), (0 : Int)) = x from rfl, tk_stay hx, tk_stay hx]
   refine ⟨by rw [r6_stay (by rw [f2]; exact hx), f2]; rfl, fun hh => absurd hh hx⟩
  | none =>
   rw [q1, show (none : Option (Int × Int)).getD (0, 0) = (0, 0) from rfl, t2, tk_chk] at f1
   cases q2 : chkN ws 2 with
   | some x =>
    rw [show lerP ws = lErr x.1 x.2 by unfold lerP; rw [if_neg (by simpa using c0), q1, q2]]
    rw [q2] at f1
    have hx := chk_some q2
    have f2 : r4R ws = x := by rw [f1, show (some x).getD ((0 : Int), (0 : Int)) = x from rfl, tk_stay hx]
    refine ⟨by rw [r6_stay (by rw [f2]; exact hx), f2]; rfl, fun hh => absurd hh hx⟩
   | none =>
    rw [q2, show (none : Option (Int × Int)).getD (0, 0) = (0, 0) from rfl, t3, tk_chk] at f1
    cases q3 : chkN ws 3 with
    | some x =>
     rw [show lerP ws = lErr x.1 x.2 by unfold lerP; rw [if_neg (by simpa using c0), q1, q2, q3]]
     rw [q3] at f1
     have hx := chk_some q3
     have f2 : r4R ws = x := f1
     refine ⟨by rw [r6_stay (by rw [f2]; exact hx), f2]; rfl, fun hh => absurd hh hx⟩
    | none =>
     rw [show lerP ws = lerT ws by unfold lerP; rw [if_neg (by simpa using c0), q1, q2, q3]]
     rw [q3] at f1
     have f2 : r4R ws = (0, 0) := f1
     have h3 := chk_none q3
     unfold r6R lerT
     rw [f2]
     by_cases c4 : ws.length ≤ 4
     ·rw [if_pos c4, if_neg (by omega), if_neg (by omega)]
      exact ⟨by unfold stR; rw [if_neg (by decide), if_pos c4], fun _ => ⟨h3, rfl, rfl⟩⟩
     ·rw [if_neg c4]
      by_cases c5 : (nth ws 4).t = wLeave
      ·have e4 : tkR ws 4 ((nth ws 4).t == wLeave) 7 (0, 0) = (0, 0) := by unfold tkR; rw [if_neg (by decide), if_neg c4, if_pos (by rw [c5]; decide)]
       rw [e4, if_neg (fun hh => hh.2 c5)]
       by_cases c6 : 5 < ws.length
       ·rw [if_pos c6]
        exact ⟨by unfold stR; rw [if_neg (by decide), if_neg (by omega)]; rfl, fun hh => by cases hh⟩
       ·rw [if_neg c6]
        exact ⟨by unfold stR; rw [if_neg (by decide), if_pos (by omega)], fun _ => ⟨h3, rfl, rfl⟩⟩
      ·have e4 : tkR ws 4 ((nth ws 4).t == wLeave) 7 (0, 0) = ((nth ws 4).c, 7) := by unfold tkR; rw [if_neg (by decide), if_neg c4, if_neg (by simpa using c5)]
       rw [e4, if_pos ⟨by omega, c5⟩, st_stay (by show (7 : Int) ≠ 0; decide)]
       exact ⟨rfl, fun hh => by cases hh⟩
 ·have e0 : tkR ws 0 ((nth ws 0).t == wPiece) 7 (0, 0) = ((nth ws 0).c, 7) := by unfold tkR; rw [if_neg (by decide), if_neg (by omega), if_neg (by simpa using c0)]
  have h7 : ((nth ws 0).c, (7 : Int)).2 ≠ 0 := by show (7 : Int) ≠ 0; decide
  have f2 : r4R ws = ((nth ws 0).c, 7) := by unfold r4R; rw [e0, tk_stay h7, tk_stay h7, tk_stay h7]
  have hP : lerP ws = lErr (nth ws 0).c 7 := by unfold lerP; rw [if_pos c0]
  rw [hP]
  exact ⟨by rw [r6_stay (by rw [f2]; exact h7), f2]; rfl, fun hh => by cases hh⟩
theorem pcV_f (l : List UInt8) (s : Scn) : (pcV l s).len = numV l (p1S l s) 0 ∧ (pcV l s).grad = numV l (p2S l s) 0 ∧ (pcV l s).lim = numV l (p3S l s) 0 ∧ (pcV l s).leave = !(decide (nxtW l (p4S l s).a = [])) := by
 unfold pcV
 dsimp only
 exact ⟨Eq.refl _, Eq.refl _, Eq.refl _, Eq.refl _⟩
theorem pc_ler (l : List UInt8) (i : Int) (hw : 0 < (wdsAt l 0).length) : (∃ k, At l (wdsAt l 0) i (pcS l (pekS l (scn0 i))) k ((lerP (wdsAt l 0)).c, (lerP (wdsAt l 0)).e)) ∧ ((lerP (wdsAt l 0)).e = 0 → (lerP (wdsAt l 0)).l = [(pcV l (pekS l (scn0 i))).len, (pcV l (pekS l (scn0 i))).grad, (pcV l (pekS l (scn0 i))).lim] ∧ (lerP (wdsAt l 0)).lv = (pcV l (pekS l (scn0 i))).leave) := by
 have h0 := at_start l i
 generalize wdsAt l 0 = ws at h0 hw ⊢
 generalize pekS l (scn0 i) = s at h0 ⊢
 have h1 := h0.tak hw (ok := nxtW l s.a == wPiece) (e := 7) (by decide)
 rw [h0.ok (fun x => x == wPiece)] at h1
 replace h1 : At l ws i (p1S l s) 1 (tkR ws 0 ((nth ws 0).t == wPiece) 7 (0, 0)) := h1
 have h2 := h1.tak hw (ok := okN l (p1S l s) false) (e := 7) (by decide)
 rw [show okN l (p1S l s) false = okW (nxtW l (p1S l s).a) false from rfl] at h2
 have h2' : At l ws i (p2S l s) 2 (tkR ws 1 (okW (nth ws 1).t false) 7 (tkR ws 0 ((nth ws 0).t == wPiece) 7 (0, 0))) := by
  have := h1.ok (fun x => okW x false) 7
  rw [← this]; exact h2
 have h3 := h2'.tak hw (ok := okN l (p2S l s) true) (e := 7) (by decide)
 have h3' : At l ws i (p3S l s) 3 (tkR ws 2 (okW (nth ws 2).t true) 7 (tkR ws 1 (okW (nth ws 1).t false) 7 (tkR ws 0 ((nth ws 0).t == wPiece) 7 (0, 0)))) := by
  have := h2'.ok (fun x => okW x true) 7
  rw [← this]; exact h3
 have h4 := h3'.tak hw (ok := okN l (p3S l s) false) (e := 7) (by decide)
 have h4' : At l ws i (p4S l s) 4 (r4R ws) := by
  have := h3'.ok (fun x => okW x false) 7
  unfold r4R
  rw [← this]; exact h4
 have h6 := r6_ler hw
 refine ⟨?_, fun hh => ?_⟩
 ·by_cases c4 : ws.length ≤ 4
  ·refine ⟨4, ?_⟩
   rw [← h6.1]
   unfold r6R
   rw [if_pos c4]
   have : pcS l s = stpS l (pekS l (p4S l s)) := by unfold pcS p5S; rw [if_pos (h4'.nx0 c4)]
   rw [this]
   exact h4'.pek.stp
  ·refine ⟨5, ?_⟩
   rw [← h6.1]
   unfold r6R
   rw [if_neg c4]
   have : pcS l s = stpS l (wrdS l (pekS l (p4S l s)) wLeave) := by unfold pcS p5S; rw [if_neg (h4'.nx1 (by omega)).2.1]
   rw [this]
   have h5 := h4'.pek.tak hw (ok := nxtW l (pekS l (p4S l s)).a == wLeave) (e := 7) (by decide)
   rw [h4'.pek.ok (fun x => x == wLeave)] at h5
   exact h5.stp
 ·obtain ⟨a1, a2, a3⟩ := h6.2 hh
  rw [a2, a3]
  have b1 := h1.nx1 (by omega)
  have b2 := h2'.nx1 (by omega)
  have b3 := h3'.nx1 (by omega)
  have nv : ∀ x, numV l x 0 = if nxtW l x.a = [] then 0 else numN (nxtW l x.a) := fun _ => rfl
  have n1 : (pcV l s).len = numN (nth ws 1).t := by
   rw [(pcV_f l s).1, nv, if_neg b1.2.1, b1.1]
  have n2 : (pcV l s).grad = numN (nth ws 2).t := by
   rw [(pcV_f l s).2.1, nv, if_neg b2.2.1, b2.1]
  have n3 : (pcV l s).lim = numN (nth ws 3).t := by
   rw [(pcV_f l s).2.2.1, nv, if_neg b3.2.1, b3.1]
  have n4 : (pcV l s).leave = decide (4 < ws.length) := by
   rw [(pcV_f l s).2.2.2]
   by_cases c4 : ws.length ≤ 4
   ·simp only [h4'.nx0 c4]; rw [decide_eq_false (by omega : ¬ 4 < ws.length)]; rfl
   ·have c5 := (h4'.nx1 (by omega)).2.1
    simp only [c5]; rw [decide_eq_true (by omega : 4 < ws.length)]; rfl
  rw [n1, n2, n3, n4]
  exact ⟨rfl, rfl⟩
end Go.Proofs.YtjhcfpdgldpicaaGreatDoor
namespace Go.Proofs.YtjhcfpdgldpicaaGreatDoor
open Go Go.RowKit Go.Proofs Go.Shelf Go.Lib
def glu (p : List UInt8) : List (List UInt8) → List (List UInt8)
 | [] => [p]
 | x :: xs => (p ++ x) :: xs
def spl : List UInt8 → List (List UInt8)
 | [] => [[]]
 | b :: l => if b = 10 then [] :: spl l else glu [b] (spl l)
theorem glu_nil {L : List (List UInt8)} (h : L ≠ []) : glu [] L = L := by cases L with | nil => exact absurd rfl h | cons x L => rfl
theorem glu_glu (p q : List UInt8) (L : List (List UInt8)) (h : L ≠ []) : glu p (glu q L) = glu (p ++ q) L := by
 cases L with
 | nil => exact absurd rfl h
 | cons x L => simp [glu]
theorem glu_ne (p : List UInt8) (L : List (List UInt8)) : glu p L ≠ [] := by cases L <;> simp [glu]
theorem spl_ne (l : List UInt8) : spl l ≠ [] := by
 cases l with
 | nil => simp [spl]
 | cons b l => simp only [spl]; split <;> simp [glu_ne]
def strip (L : List (List UInt8)) : List (List UInt8) := if L.getLast? = some [] then L.dropLast else L
theorem strip_cons {a : List UInt8} {L : List (List UInt8)} (h : L ≠ []) : strip (a :: L) = a :: strip L := by
 cases L with
 | nil => exact absurd rfl h
 | cons x L =>
  unfold strip
  rw [List.getLast?_cons_cons, List.dropLast_cons_cons]
  split <;> rfl
theorem spl_at : ∀ (l : List UInt8) (j : Nat), j < l.length → l.getD j 0 = 10 → (∀ k, k < j → l.getD k 0 ≠ 10) → spl l = l.take j :: spl (l.drop (j + 1))
 | [], j, h, _, _ => by simp at h
 | b :: l, 0, h, h1, _ => by
  have : b = 10 := h1
  subst this
  simp [spl]
 | b :: l, j + 1, h, h1, h2 => by
  have hb : b ≠ 10 := h2 0 (by omega)
  simp only [spl, if_neg hb]
  rw [spl_at l j (by simpa using h) h1 (fun k hk => h2 (k + 1) (by omega))]
  simp [glu]
theorem spl_none : ∀ (l : List UInt8), (∀ k, k < l.length → l.getD k 0 ≠ 10) → spl l = [l]
 | [], _ => rfl
 | b :: l, h => by
  have hb : b ≠ 10 := h 0 (by simp)
  simp only [spl, if_neg hb]
  rw [spl_none l (fun k hk => h (k + 1) (by simpa using hk))]
  rfl
theorem pcs_glue (l : List UInt8) : ∀ i : Nat, i ≤ l.length → (pcs (bs l) 10) = cls (bs l) 10 i ++ (glu ((l.drop (opn (bs l) 10 i)).take (i - opn (bs l) 10 i)) (spl (l.drop i))).map bs := by
 have hz : (bs l).size = l.length := rfl
 have key : ∀ n i : Nat, i + n = l.length → (pcs (bs l) 10) = cls (bs l) 10 i ++ (glu ((l.drop (opn (bs l) 10 i)).take (i - opn (bs l) 10 i)) (spl (l.drop i))).map bs := by
  intro n
  induction n with
  | zero =>
   intro i hi
   have : i = l.length := by omega
   subst this
   unfold pcs
   rw [hz, List.drop_length, bs_ext]
   simp [spl, glu]
  | succ n ih =>
   intro i hi
   rw [ih (i + 1) (by omega)]
   have hd : l.drop i = l.getD i default :: l.drop (i + 1) := get_blk (by omega)
   have ho := opn_le (bs l) 10 i
   by_cases hb : l.getD i default = 10
   ·have h1 := opn_T (tx := bs l) (c := 10) (i := i) hb
    rw [h1.1, h1.2, hd, hb]
    simp only [spl, if_pos]
    rw [bs_ext, Nat.sub_self, List.take_zero, glu_nil (spl_ne _), List.append_assoc]
    simp [glu]
   ·have h1 := opn_F (tx := bs l) (c := 10) (i := i) hb
    rw [h1.1, h1.2, hd]
    simp only [spl, if_neg hb]
    rw [glu_glu _ _ _ (spl_ne _)]
    congr 3
    rw [show i + 1 - opn (bs l) 10 i = (i - opn (bs l) 10 i) + 1 by omega, List.take_add_one, List.getElem?_drop, show opn (bs l) 10 i + (i - opn (bs l) 10 i) = i by omega, List.getD_eq_getElem?_getD, List.getElem?_eq_getElem (by omega)]
    rfl
 intro i hi
 exact key (l.length - i) i (by omega)
theorem pcs_spl (l : List UInt8) : pcs (bs l) 10 = (spl l).map bs := by
 rw [pcs_glue l 0 (Nat.zero_le _)]
 simp [cls, opn, glu_nil (spl_ne l)]
theorem cut_at {l : List UInt8} {j : Nat} (hj : j < l.length) (h : l.getD j 0 = 10) : cutN (l.take (j + 1)) = l.take j := by
 unfold cutN trimSuffix
 have hs : hasSuffix (l.take (j + 1)) [10] = true := by
  have : l.take (j + 1) = l.take j ++ [10] := by
   rw [List.take_add_one, List.getElem?_eq_getElem hj]
   rw [List.getD_eq_getElem?_getD, List.getElem?_eq_getElem hj] at h
   simp at h
   simp [h]
  rw [this]
  simp [hasSuffix]
 rw [if_pos hs, List.take_take, List.length_take]
 congr 1
 simp only [List.length_cons, List.length_nil]
 omega
theorem cut_no {l : List UInt8} (h : ∀ k, k < l.length → l.getD k 0 ≠ 10) : cutN l = l := by
 unfold cutN trimSuffix
 split
 ·rename_i hs
  exfalso
  have h1 : [10] <:+ l := by simpa [hasSuffix] using hs
  obtain ⟨t, ht⟩ := h1
  have := h t.length (by rw [← ht]; simp)
  apply this
  rw [← ht]; simp
 ·rfl
theorem lines_spl : ∀ (n : Nat) (l : List UInt8), l.length ≤ n → (linesY l).map cutN = strip (spl l) := by
 intro n
 induction n with
 | zero =>
  intro l h
  have : l = [] := List.eq_nil_of_length_eq_zero (by omega)
  subst this
  rw [linesY_nil]; rfl
 | succ n ih =>
  intro l h
  by_cases h0 : l = []
  ·subst h0; rw [linesY_nil]; rfl
  ·have hp := List.length_pos_iff.2 h0
   rw [linesY_step h0, List.map_cons]
   have hlt := tlL_len h0
   rw [ih (tlL l) (by omega)]
   by_cases hi : 0 ≤ indexByte l 10
   ·obtain ⟨j, hj⟩ : ∃ j : Nat, indexByte l 10 = j := ⟨(indexByte l 10).toNat, by omega⟩
    obtain ⟨a1, a2⟩ := indexByte_some hj
    have hjl : j < l.length := (List.getElem?_eq_some_iff.1 a1).1
    have b1 : l.getD j 0 = 10 := by rw [List.getD_eq_getElem?_getD, a1]; rfl
    have b2 : ∀ k, k < j → l.getD k 0 ≠ 10 := fun k hk he => a2 k hk (by
     rw [List.getD_eq_getElem?_getD, List.getElem?_eq_getElem (by omega)] at he
     rw [List.getElem?_eq_getElem (by omega)]
     simpa using he)
    have e1 : hdL l = l.take (j + 1) := by unfold hdL; rw [if_pos hi, hj]; rfl
    have e2 : tlL l = l.drop (j + 1) := by unfold tlL; rw [if_pos hi, hj]; rfl
    rw [e1, e2, spl_at l j hjl b1 b2, strip_cons (spl_ne _), cut_at hjl b1]
   ·obtain ⟨e1, e2⟩ := hd_no hi
    have hb : indexByte l 10 = -1 := by have := (idx_ge l 10).1; omega
    have b2 : ∀ k, k < l.length → l.getD k 0 ≠ 10 := fun k hk he => indexByte_none hb k (by
     rw [List.getD_eq_getElem?_getD, List.getElem?_eq_getElem (by omega)] at he
     rw [List.getElem?_eq_getElem (by omega)]
     simpa using he)
    rw [e1, e2, spl_none l b2, cut_no b2]
    have hl1 : strip [l] = [l] := by unfold strip; rw [if_neg (by simpa using h0)]
    rw [hl1]
    rfl
theorem lines_eq (l : List UInt8) : (linesY l).map cutN = strip (spl l) := lines_spl l.length l (Nat.le_refl _)
theorem nxt_wds (l : List UInt8) : nxtW l 0 = [] ↔ wdsAt l 0 = [] := by
 constructor
 ·exact wdsAt_nil (Nat.zero_le _)
 ·intro h
  by_cases h0 : nxtW l 0 = []
  ·exact h0
  ·rw [wdsAt_cons (Nat.zero_le _) h0] at h; cases h
theorem wdsF_bound (l : List UInt8) : ∀ (f a : Nat), a ≤ l.length → (wdsF l f a).length ≤ l.length - a ∧ ∀ w ∈ wdsF l f a, w.t.length ≤ l.length ∧ 0 ≤ w.c ∧ w.c ≤ l.length + 1 := by
 intro f
 induction f with
 | zero => intro a h; exact ⟨by simp [wdsF], fun w hw => by simp [wdsF] at hw⟩
 | succ f ih =>
  intro a h
  simp only [wdsF]
  split
  ·exact ⟨by simp, fun w hw => by simp at hw⟩
  ·rename_i h0
   obtain ⟨a1, a2, a3⟩ := rst_ne h0
   have a4 := posW_le l a
   have a5 := List.length_pos_iff.2 a1
   have a6 := nxtW_len l a
   have a7 := rstW_len l a
   obtain ⟨b1, b2⟩ := ih _ a4
   refine ⟨by rw [List.length_cons]; omega, fun w hw => ?_⟩
   rcases List.mem_cons.1 hw with rfl | hw
   ·exact ⟨by show (nxtW l a).length ≤ _; omega, by show (0 : Int) ≤ (posW l a : Int) + 1; omega, by show (posW l a : Int) + 1 ≤ _; omega⟩
   ·exact b2 w hw
theorem wds_bound (l : List UInt8) (hl : l.length ≤ 60000) : (wdsAt l 0).length ≤ 60000 ∧ ∀ w ∈ wdsAt l 0, w.t.length ≤ 1000000 ∧ 0 ≤ w.c ∧ w.c ≤ 1000001 := by
 obtain ⟨b1, b2⟩ := wdsF_bound l (l.length + 1 - 0) 0 (Nat.zero_le _)
 refine ⟨by show (wdsF l (l.length + 1 - 0) 0).length ≤ _; omega, fun w hw => ?_⟩
 obtain ⟨c1, c2, c3⟩ := b2 w hw
 exact ⟨by omega, c2, by omega⟩
def lerB (b : Int) (ws : List Wd) : LR := if b = 0 then lerH ws else lerP ws
def stB (nm : List UInt8) (b : Int) (ps : List Piece) (az : List Int) : PSt := ⟨nm, ps, if b = 0 then [] else b :: az⟩
def pcL (r : LR) : Piece := ⟨r.l.getD 0 default, r.l.getD 1 default, r.l.getD 2 default, r.lv⟩
structure RInv (cs : List (List UInt8)) (i : Int) (nm : List UInt8) (b : Int) (ps : List Piece) (az : List Int) (R : PRes) : Prop where
 i0 : 0 ≤ i
 go : goP i (stB nm b ps az) (cs.drop i.toNat) = R
 le : i ≤ cs.length
 nm : nm.length ≤ 60000
 pl : az.length = ps.length
 pi : (ps.length : Int) ≤ i
 b0 : 0 ≤ b ∧ b ≤ i
 z : b = 0 → ps = []
section
variable {cs : List (List UInt8)} {i : Int} {nm : List UInt8} {b : Int} {ps : List Piece} {az : List Int} {R : PRes}
theorem RInv.drop (h : RInv cs i nm b ps az R) (hi : i < cs.length) : goP i (stB nm b ps az) (cs.getD i.toNat default :: cs.drop (i + 1).toNat) = R := by
 rw [← h.go]
 have h0 := h.i0
 congr 1
 rw [show (i + 1).toNat = i.toNat + 1 by omega, List.drop_eq_getElem_cons (l := cs) (i := i.toNat) (by omega), List.getD_eq_getElem?_getD, List.getElem?_eq_getElem (by omega)]
 rfl
theorem RInv.skip (h : RInv cs i nm b ps az R) (hi : i < cs.length) (hw : wdsAt (cs.getD i.toNat default) 0 = []) : RInv cs (i + 1) nm b ps az R := by
 have h1 := h.drop hi
 have h0 := h.i0
 have h2 := h.pi
 have h3 := h.b0
 simp only [goP, if_pos ((nxt_wds _).2 hw)] at h1
 exact ⟨by omega, h1, by omega, h.nm, h.pl, by omega, by omega, h.z⟩
theorem stepB_e (nm : List UInt8) (b : Int) (ps : List Piece) (az : List Int) (i : Int) (l : List UInt8) (hw : wdsAt l 0 ≠ []) : (stepS (stB nm b ps az) i l).e = (lerB b (wdsAt l 0)).e ∧ (stepS (stB nm b ps az) i l).mc = (lerB b (wdsAt l 0)).c ∧ (stepS (stB nm b ps az) i l).ml = if (lerB b (wdsAt l 0)).e = 0 then 0 else i := by
 have hl := List.length_pos_iff.2 hw
 unfold lerB
 by_cases hb : b = 0
 ·have e1 : (stB nm b ps az).at' = [] := if_pos hb
  rw [(stepA e1 i l).1, if_pos hb]
  have := (hd_ler l i hl).1
  exact ⟨this.e, this.mc, this.ml⟩
 ·have e1 : (stB nm b ps az).at' = b :: az := if_neg hb
  rw [(stepB (by rw [e1]; simp) i l).1, if_neg hb]
  obtain ⟨k, this⟩ := (pc_ler l i hl).1
  exact ⟨this.e, this.mc, this.ml⟩
theorem RInv.stop (h : RInv cs i nm b ps az R) (hi : i < cs.length) (hw : wdsAt (cs.getD i.toNat default) 0 ≠ []) (he : (lerB b (wdsAt (cs.getD i.toNat default) 0)).e ≠ 0) :
 R = ⟨[], [], i + 1, (lerB b (wdsAt (cs.getD i.toNat default) 0)).c, (lerB b (wdsAt (cs.getD i.toNat default) 0)).e⟩ := by
 have h1 := h.drop hi
 obtain ⟨e1, e2, e3⟩ := stepB_e nm b ps az (i + 1) _ hw
 simp only [goP, if_neg (fun x => hw ((nxt_wds _).1 x)), e1, if_neg he, e2, e3] at h1
 exact h1.symm
theorem stB_h (X nm : List UInt8) {i : Int} (h : ¬ i + 1 = 0) : stB X (i + 1) [] [] = ⟨X, (stB nm 0 [] []).ps, (stB nm 0 [] []).at' ++ [i + 1]⟩ := by
 unfold stB; rw [if_neg h, if_pos rfl]; rfl
theorem stB_p (nm : List UInt8) {b : Int} (ps : List Piece) (az : List Int) (p : Piece) (k : Int) (h : ¬ b = 0) : stB nm b (ps ++ [p]) (az ++ [k]) = ⟨(stB nm b ps az).nm, (stB nm b ps az).ps ++ [p], (stB nm b ps az).at' ++ [k]⟩ := by
 unfold stB; rw [if_neg h, if_neg h]; rfl
theorem hdN_len (l : List UInt8) (s : Scn) : (hdN l s).length ≤ l.length := by
 unfold hdN
 have a1 := nxtW_len l (wrdS l s wTrack).a
 have a2 := rstW_len l (wrdS l s wTrack).a
 omega
theorem pcL_eq {r : LR} {v : Piece} (h1 : r.l = [v.len, v.grad, v.lim]) (h2 : r.lv = v.leave) : pcL r = v := by unfold pcL; rw [h1, h2]; rfl
theorem RInv.head (h : RInv cs i nm b ps az R) (hi : i < cs.length) (hcl : (cs.getD i.toNat default).length ≤ 60000) (hw : wdsAt (cs.getD i.toNat default) 0 ≠ []) (hb : b = 0) (he : (lerB b (wdsAt (cs.getD i.toNat default) 0)).e = 0) :
 RInv cs (i + 1) (lerB b (wdsAt (cs.getD i.toNat default) 0)).nm (i + 1) ps az R := by
 have h1 := h.drop hi
 have h0 := h.i0
 have hp := h.pi
 obtain ⟨e1, e2, e3⟩ := stepB_e nm b ps az (i + 1) _ hw
 simp only [goP, if_neg (fun x => hw ((nxt_wds _).1 x)), e1, if_pos he] at h1
 have e4 : (stB nm b ps az).at' = [] := if_pos hb
 rw [(stepA e4 _ _).2] at h1
 subst hb
 have e5 : ∀ ws, lerB 0 ws = lerH ws := fun ws => if_pos rfl
 rw [e5] at he ⊢
 have e6 := (hd_ler (cs.getD i.toNat default) (i + 1) (List.length_pos_iff.2 hw)).2 he
 rw [e6] at h1
 have hz := h.z rfl
 subst hz
 have ha : az = [] := List.eq_nil_of_length_eq_zero h.pl
 subst ha
 refine ⟨by omega, ?_, by omega, ?_, rfl, by simp; omega, by omega, by omega⟩
 ·rw [stB_h _ nm (by omega)]; exact h1
 ·rw [← e6]
  exact Nat.le_trans (hdN_len _ _) hcl
theorem lerP_three {ws : List Wd} (hw : 0 < ws.length) (he : (lerP ws).e = 0) : (lerP ws).l.length = 3 := by rw [((r6_ler hw).2 he).2.1]; rfl
theorem RInv.piece (h : RInv cs i nm b ps az R) (hi : i < cs.length) (hw : wdsAt (cs.getD i.toNat default) 0 ≠ []) (hb : ¬ b = 0) (he : (lerB b (wdsAt (cs.getD i.toNat default) 0)).e = 0) :
 RInv cs (i + 1) nm b (ps ++ [pcL (lerB b (wdsAt (cs.getD i.toNat default) 0))]) (az ++ [i + 1]) R := by
 have h1 := h.drop hi
 have h0 := h.i0
 have hp := h.pi
 have hbb := h.b0
 obtain ⟨e1, e2, e3⟩ := stepB_e nm b ps az (i + 1) _ hw
 simp only [goP, if_neg (fun x => hw ((nxt_wds _).1 x)), e1, if_pos he] at h1
 have e4 : (stB nm b ps az).at' = b :: az := if_neg hb
 rw [(stepB (by rw [e4]; simp) _ _).2] at h1
 have e5 : ∀ ws, lerB b ws = lerP ws := fun ws => if_neg hb
 rw [e5] at he ⊢
 have e6 := (pc_ler (cs.getD i.toNat default) (i + 1) (List.length_pos_iff.2 hw)).2 he
 have e7 : pcL (lerP (wdsAt (cs.getD i.toNat default) 0)) = pcV (cs.getD i.toNat default) (pekS (cs.getD i.toNat default) (scn0 (i + 1))) := pcL_eq e6.1 e6.2
 rw [e7]
 refine ⟨by omega, ?_, by omega, h.nm, by simp [h.pl], by simp; omega, by omega, fun hh => absurd hh hb⟩
 rw [stB_p _ _ _ _ _ hb]; exact h1
theorem RInv.last (h : RInv cs i nm b ps az R) (hi : i = cs.length) : R = finP i (stB nm b ps az) := by
 rw [← h.go, List.drop_eq_nil_of_le (by omega)]; rfl
theorem RInv.fin0 (h : RInv cs i nm b ps az R) (hi : i = cs.length) (hb : b = 0) : R = ⟨[], [], cs.length + 1, 1, 6⟩ := by
 rw [h.last hi]
 have e4 : (stB nm b ps az).at' = [] := if_pos hb
 unfold finP
 rw [if_pos e4, hi]
theorem RInv.fin1 (h : RInv cs i nm b ps az R) (hi : i = cs.length) (hb : ¬ b = 0) (hc : (chk (bs nm) ps).2 = 0) : R = ⟨nm, ps, 0, 0, 0⟩ := by
 rw [h.last hi]
 have e4 : (stB nm b ps az).at' = b :: az := if_neg hb
 have f1 : (stB nm b ps az).nm = nm := rfl
 have f2 : (stB nm b ps az).ps = ps := rfl
 unfold finP
 rw [if_neg (by rw [e4]; simp), f1, f2, if_pos hc]
theorem RInv.fin2 (h : RInv cs i nm b ps az R) (hi : i = cs.length) (hb : ¬ b = 0) (hc : ¬ (chk (bs nm) ps).2 = 0) : R = ⟨[], [], if (chk (bs nm) ps).2 = 2 then az.getD (chk (bs nm) ps).1.toNat default else b, 1, (chk (bs nm) ps).2⟩ := by
 rw [h.last hi]
 unfold finP
 have e4 : (stB nm b ps az).at' = b :: az := if_neg hb
 have f1 : (stB nm b ps az).nm = nm := rfl
 have f2 : (stB nm b ps az).ps = ps := rfl
 rw [if_neg (by rw [e4]; simp), e4, f1, f2, if_neg hc]
 have : (b :: az).getD (if (chk (bs nm) ps).2 = 2 then ((chk (bs nm) ps).1 + 1).toNat else 0) 0 = if (chk (bs nm) ps).2 = 2 then az.getD (chk (bs nm) ps).1.toNat default else b := by
  by_cases hr : (chk (bs nm) ps).2 = 2
  ·rw [if_pos hr, if_pos hr]
   have := (chk_rng hr).1
   rw [show ((chk (bs nm) ps).1 + 1).toNat = (chk (bs nm) ps).1.toNat + 1 by omega]
   rfl
  ·rw [if_neg hr, if_neg hr]; rfl
 rw [← this]
end
theorem strip_two {L : List (List UInt8)} (h : L ≠ []) : (L = strip L ++ [[]]) ∨ (L = strip L ∧ L.getD (L.length - 1) default ≠ []) := by
 unfold strip
 by_cases hh : L.getLast? = some []
 ·rw [if_pos hh]
  left
  have h1 : L.dropLast ++ [([] : List UInt8)] = L := by
   have h2 := List.dropLast_concat_getLast h
   rw [List.getLast?_eq_some_getLast h] at hh
   rw [← Option.some.inj hh]; exact h2
  exact h1.symm
 ·rw [if_neg hh]
  right
  refine ⟨rfl, fun h2 => hh ?_⟩
  have hp := List.length_pos_iff.2 h
  rw [List.getLast?_eq_getElem?, List.getElem?_eq_getElem (by omega)]
  rw [List.getD_eq_getElem?_getD, List.getElem?_eq_getElem (by omega)] at h2
  exact congrArg some h2
theorem spl_mem (tx : List UInt8) (k : Nat) : ((strip (spl tx)).getD k default).length ≤ tx.length := by
 rw [← lines_eq, List.getD_eq_getElem?_getD, List.getElem?_map]
 cases hq : (linesY tx)[k]? with
 | none => exact Nat.zero_le _
 | some y =>
  have h1 := linesY_mem (List.mem_of_getElem? hq)
  have h2 := cutN_len y
  show (cutN y).length ≤ _
  omega
set_option maxRecDepth 100000 in
set_option maxHeartbeats 4000000 in
theorem cutR_ok (tx : List UInt8) (hl : tx.length ≤ 1000000) : FnOk Tryz.prog 45 [.v (.string (bs tx)), .v (.int .u8 10)] (fun q => q = .row 1 ((spl tx).map lnE)) := by
 have h := bCut_ok (bs tx) 10 hl
 rw [pcs_spl, List.map_map] at h
 exact h
set_option maxRecDepth 100000 in
set_option maxHeartbeats 4000000 in
theorem lineErr_any (b : Int) (ws : List Wd) (h0 : 0 < ws.length) (hl : ws.length ≤ 100000) (hs : ∀ w ∈ ws, w.t.length ≤ 1000000 ∧ 0 ≤ w.c ∧ w.c ≤ 1000001) : FnOk Tryz.prog 47 [.row 2 (ws.map wE), .v (.bool (decide (b = 0)))] (fun q => q = lrA (lerB b ws)) := by
 by_cases hb : b = 0
 ·have := lineErr_head ws h0 hl hs
  rw [decide_eq_true hb, show lerB b ws = lerH ws from if_pos hb]
  exact this
 ·have := lineErr_piece ws h0 hl hs
  rw [decide_eq_false hb, show lerB b ws = lerP ws from if_neg hb]
  exact this
end Go.Proofs.YtjhcfpdgldpicaaGreatDoor
namespace Go.Proofs.YtjhcfpdgldpicaaGreatDoor
open Go Go.RowKit Go.Proofs
theorem k40_sl22 : SlIs Tryz.prog 22 111 4 32 (.agg #[.int .i64 0, .int .i64 0, .int .i64 0, .bool false]) := ⟨by kernel_rfl, by kernel_rfl, by kernel_rfl⟩
theorem k40_gq111 : Tryz.prog.eqGuardType Tryz.prog.depth 111 = false := by kernel_rfl
theorem k40_sq111 {a0 b0 : Int} {a1 b1 : Int} {a2 b2 : Int} {a3 b3 : Bool} : EqV Tryz.prog 2 111 (.agg #[.int .i64 a0, .int .i64 a1, .int .i64 a2, .bool a3]) (.agg #[.int .i64 b0, .int .i64 b1, .int .i64 b2, .bool b3]) (decide (a0 = b0) && (decide (a1 = b1) && (decide (a2 = b2) && ((a3 == b3) && true)))) := (eqs_struct [(3, 0), (3, 1), (3, 2), (4, 3)] (by kernel_rfl) (by kernel_rfl) (by kernel_rfl) (by kernel_rfl) (.cons (fun _ => by kernel_rfl) (fun _ => by kernel_rfl) (eqv_int (k := .i64) (k' := .i64) (by kernel_rfl) a0 b0) (.cons (fun _ => by kernel_rfl) (fun _ => by kernel_rfl) (eqv_int (k := .i64) (k' := .i64) (by kernel_rfl) a1 b1) (.cons (fun _ => by kernel_rfl) (fun _ => by kernel_rfl) (eqv_int (k := .i64) (k' := .i64) (by kernel_rfl) a2 b2) (.cons (fun _ => by kernel_rfl) (fun _ => by kernel_rfl) (eqv_bool (by kernel_rfl) a3 b3) .nil)))))
theorem k40_ty111 : TyIs Tryz.prog 111 true 4 := ⟨by kernel_rfl, by kernel_rfl⟩
theorem k40_ty22 : TyIs Tryz.prog 22 false 1 := ⟨by kernel_rfl, by kernel_rfl⟩
theorem k40_ty9 : TyIs Tryz.prog 9 false 1 := ⟨by kernel_rfl, by kernel_rfl⟩
instance pieceEq : DecidableEq Piece := fun a b => if h : a.len = b.len ∧ a.grad = b.grad ∧ a.lim = b.lim ∧ a.leave = b.leave then .isTrue (by cases a; cases b; simp_all) else .isFalse (fun e => h (by subst e; exact ⟨rfl, rfl, rfl, rfl⟩))
def samB (na : ByteArray) (ps : List Piece) (nb : ByteArray) (qs : List Piece) : Bool := (na.toList == nb.toList) && decide (ps = qs)
theorem list_ext_getD {xs ys : List Piece} (hl : xs.length = ys.length) (h : ∀ j : Nat, j < xs.length → xs.getD j default = ys.getD j default) : xs = ys := by
 apply List.ext_getElem hl
 intro j h1 h2
 have := h j h1
 simpa [List.getD_eq_getElem?_getD, h1, h2] using this
def pieB (p q : Piece) : Bool := decide (p.len = q.len) && (decide (p.grad = q.grad) && (decide (p.lim = q.lim) && ((p.leave == q.leave) && true)))
theorem sam_piece {p q : Piece} (h : pieB p q = true) : p = q := by
 unfold pieB at h
 simp only [Bool.and_eq_true, decide_eq_true_eq, beq_iff_eq, Bool.and_true] at h
 obtain ⟨h1, h2, h3, h4⟩ := h
 cases p; cases q; simp_all
theorem dif_piece {p q : Piece} (h : pieB p q = false) : p ≠ q := by
 rintro rfl
 unfold pieB at h
 simp at h
set_option maxRecDepth 100000 in
set_option maxHeartbeats 4000000 in
theorem rSame_ok (na : ByteArray) (ps : List Piece) (nb : ByteArray) (qs : List Piece) (hp : ps.length ≤ 1000000) (hq : qs.length ≤ 1000000) : FnOk Tryz.prog 11 [trA na ps, trA nb qs] (fun q => q = bA (samB na ps nb qs)) := by
 refine fnOk_of (fn := Tryz.f11) 38 (by kernel_rfl) rfl (by kernel_rfl) (Nat.le_of_ble_eq_true rfl) ?_
 intro e_0 m_0 hA hm_0
 have s0_0 : evA e_0 (.tmp 0) = _ := hA 0 _ rfl
 have s1_0 : evA e_0 (.tmp 1) = _ := hA 1 _ rfl
 have ml_0 : m_0.length = 0 := by rw [hm_0]; rfl
 clear hA hm_0
 refine aw_seq <| at_ <| al_stm (st_box s0_0 rfl ml_0) trivial rfl (fun m_1 hm_1 => ?_)
 have mo0_1 := m_push hm_1 ml_0
 have ml_1 := m_push_l hm_1 ml_0
 have ml_1 : _ = 1 := ml_1
 clear hm_1
 refine al_stm (st_box (up_m rfl s1_0) rfl ml_1) trivial rfl (fun m_2 hm_2 => ?_)
 have mo1_2 := m_push hm_2 ml_1
 have mo0_2 := m_push_o hm_2 mo0_1
 have ml_2 := m_push_l hm_2 ml_1
 have ml_2 : _ = 2 := ml_2
 clear hm_2 mo0_1
 refine ar (ro_assign ev_c) rfl <| ae2 (u2 rfl up_h) (up_m rfl up_h) ?_; clear s0_0 s1_0; intro e_3 s2_3 s3_3
 refine then_n <| aw_seq <| aw_seq <| at_ <| ar (ro_fld_ptr qfl24_0 rfl s2_3) rfl <| ar (ro_eq (ro_ld_ptr k40_ty9 rfl mo0_2 up_h (nle rfl)) (by simp only [pS, Value.cells, Nat.reduceAdd, pE] <;> rfl)) rfl ?_
 refine ar (ro_fld_ptr qfl24_0 rfl (u2 rfl s3_3)) rfl <| ar (ro_eq (ro_ld_ptr k40_ty9 rfl mo1_2 up_h (nle rfl)) (by simp only [pS, Value.cells, Nat.reduceAdd, pE] <;> rfl)) rfl ?_
 refine ar (ro_sneq (u2 rfl up_h) up_h) rfl <| ar (ro_move up_h) rfl <| al_case up_h (fun hb_4 hq_4 => ?_) (fun hb_4 hq_4 => ?_)
 ·replace hq_4 := bt' hq_4
  refine al_skip' ⟨_, rfl, .inl hb_4⟩ rfl ?_
  refine al_skip' ⟨_, rfl, .inl (up_m rfl hb_4)⟩ rfl ?_
  refine al_skip' ⟨_, rfl, .inl (u2 rfl hb_4)⟩ rfl ?_
  refine al_skip' ⟨_, rfl, .inl (up_m rfl (u2 rfl hb_4))⟩ rfl ?_
  refine al_skip' ⟨_, rfl, .inl (u4 rfl hb_4)⟩ rfl ?_
  refine al_skip' ⟨_, rfl, .inl (up_m rfl (u4 rfl hb_4))⟩ rfl ?_
  refine al_skip' ⟨_, rfl, .inl (u2 rfl (u4 rfl hb_4))⟩ rfl ?_
  refine ar (ro_pickT (up_m rfl (u2 rfl (u4 rfl hb_4))) ev_c) rfl <| ae3 (u2 rfl (u4 rfl (u8 rfl s2_3))) (u2 rfl (u4 rfl (u8 rfl s3_3))) up_h ?_; clear hb_4 s2_3 s3_3; intro e_5 s2_5 s3_5 s19_5
  refine then_n <| aw_true s19_5 <| aw_seq <| at_ <| ar (ro_assign ev_c) rfl <| ae1 up_h ?_; clear s19_5 s2_5 s3_5; intro e_7 s4_7
  refine then_n <| aw_ret <| then_r <| ret1 (.inr rfl) (by kernel_rfl) (resV_tmp s4_7) (.ro _ rfl) ?_
  clear s4_7 mo1_2 mo0_2 ml_2
  (first | (unfold samB; rw [‹(na.toList == nb.toList) = false›]; rfl) | (unfold samB; rw [decide_eq_false (by rintro rfl; omega), Bool.and_false]) | (unfold samB; rw [decide_eq_false (by rintro rfl; exact dif_piece (by assumption) rfl), Bool.and_false]))
 replace hq_4 := bf' hq_4
 refine al_ro' (ro_fld_ptr qfl24_1 rfl (u2 rfl (u4 rfl s2_3))) ⟨_, rfl, hb_4⟩ rfl ?_
 refine al_ro' (ro_eq (ro_ld_ptr k40_ty22 rfl mo0_2 up_h (nle rfl)) (by simp only [pS, Value.cells, Nat.reduceAdd, pE] <;> rfl)) ⟨_, rfl, (up_m rfl hb_4)⟩ rfl ?_
 refine al_ro' (ro_eq (ro_len_row up_h rfl k40_sl22.1) (by simp only [lnS] <;> rfl)) ⟨_, rfl, (u2 rfl hb_4)⟩ rfl ?_
 refine al_ro' (ro_fld_ptr qfl24_1 rfl (up_m rfl (u8 rfl s3_3))) ⟨_, rfl, (up_m rfl (u2 rfl hb_4))⟩ rfl ?_
 refine al_ro' (ro_eq (ro_ld_ptr k40_ty22 rfl mo1_2 up_h (nle rfl)) (by simp only [pS, Value.cells, Nat.reduceAdd, pE] <;> rfl)) ⟨_, rfl, (u4 rfl hb_4)⟩ rfl ?_
 refine al_ro' (ro_eq (ro_len_row up_h rfl k40_sl22.1) (by simp only [lnS] <;> rfl)) ⟨_, rfl, (up_m rfl (u4 rfl hb_4))⟩ rfl ?_
 refine al_ro' (ro_neq (up_m rfl (u2 rfl up_h)) up_h) ⟨_, rfl, (u2 rfl (u4 rfl hb_4))⟩ rfl ?_
 refine ar (ro_pickF (up_m rfl (u2 rfl (u4 rfl hb_4))) up_h) rfl <| ae3 (u2 rfl (u4 rfl (u8 rfl s2_3))) (u2 rfl (u4 rfl (u8 rfl s3_3))) up_h ?_; clear hb_4 s2_3 s3_3; intro e_8 s2_8 s3_8 s19_8
 refine then_n <| aw_case s19_8 (fun hq_9 => ?_) (fun hq_9 => ?_)
 ·replace hq_9 := bnt hq_9
  refine aw_seq <| at_ <| ar (ro_assign ev_c) rfl <| ae1 up_h ?_; clear s19_8 s2_8 s3_8; intro e_10 s4_10
  refine then_n <| aw_ret <| then_r <| ret1 (.inr rfl) (by kernel_rfl) (resV_tmp s4_10) (.ro _ rfl) ?_
  clear s4_10 mo1_2 mo0_2 ml_2
  (first | (unfold samB; rw [‹(na.toList == nb.toList) = false›]; rfl) | (unfold samB; rw [decide_eq_false (by rintro rfl; omega), Bool.and_false]) | (unfold samB; rw [decide_eq_false (by rintro rfl; exact dif_piece (by assumption) rfl), Bool.and_false]))
 replace hq_9 := bnf hq_9
 refine aw_skip <| then_n <| aw_seq <| aw_seq <| at_ <| ar (ro_assign ev_c) rfl <| ae3 (up_m rfl s2_8) (up_m rfl s3_8) up_h ?_; clear s19_8 s2_8 s3_8; intro e_11 s2_11 s3_11 s5_11
 refine then_n <| aw_block <| aw_loop (S := Int) (fun i e mem => (evA e (.tmp 5) = .v (.int .i64 i)) ∧ (evA e (.tmp 2) = evA e_11 (.tmp 2)) ∧ (evA e (.tmp 3) = evA e_11 (.tmp 3)) ∧ (mem[1]? = m_2[1]?) ∧ (mem[0]? = m_2[0]?) ∧ (mem.length = 2) ∧ ((0 ≤ i ∧ i ≤ ps.length ∧ ∀ j : Nat, j < i.toNat → ps.getD j default = qs.getD j default))) (fun i => (ps.length - i).toNat) _ ⟨s5_11, rfl, rfl, rfl, rfl, ml_2, ?_⟩ ?_
 ·(exact ⟨by omega, by omega, fun j h => absurd h (by omega)⟩)
 ·rintro i e_12 m_12 ⟨s5_12, k2_12, k3_12, mk1_12, mk0_12, ml_12, hinv⟩
  have s2_12 := k2_12.trans s2_11
  have s3_12 := k3_12.trans s3_11
  have mo1_12 := mk1_12.trans mo1_2
  have mo0_12 := mk0_12.trans mo0_2
  (obtain ⟨p1, p2, p3⟩ := hinv)
  refine aw_seq <| aw_seq <| at_ <| ar (ro_move s5_12) rfl <| ar (ro_fld_ptr qfl24_1 rfl (up_m rfl s2_12)) rfl <| ar (ro_eq (ro_ld_ptr k40_ty22 rfl mo0_12 up_h (nle rfl)) (by simp only [pS, Value.cells, Nat.reduceAdd, pE] <;> rfl)) rfl ?_
  refine ar (ro_eq (ro_len_row up_h rfl k40_sl22.1) (by simp only [lnS] <;> rfl)) rfl ?_
  refine ar (ro_lss (up_m rfl (u2 rfl up_h)) up_h) rfl <| ae4 (up_m rfl (u4 rfl s2_12)) (up_m rfl (u4 rfl s3_12)) (up_m rfl (u4 rfl s5_12)) up_h ?_; clear s2_12 s3_12 s5_12; intro e_13 s2_13 s3_13 s5_13 s24_13
  refine then_n <| aw_case s24_13 (fun hq_14 => ?_) (fun hq_14 => ?_)
  ·replace hq_14 := bt hq_14
   refine aw_skip <| then_n <| aw_seq <| aw_block <| aw_seq <| aw_draw 11 (by kernel_rfl) (by kernel_rfl) (by kernel_rfl) (by kernel_rfl) ?_
   refine dr (ro_fld_ptr qfl24_1 rfl s2_13) rfl <| dr (ro_eq (ro_ld_ptr k40_ty22 rfl mo0_12 up_h (nle rfl)) (by simp only [pS, Value.cells, Nat.reduceAdd, pE] <;> rfl)) rfl ?_
   refine dr (ro_move (u2 rfl s5_13)) rfl <| dr (ro_eq (ro_ix k40_sl22 (up_m rfl up_h) up_h (by omega) (by first | (refine idx_map ?_; first | omega | (simp only [lnS]; omega)) | (refine idx_mapI ?_; first | omega | (simp only [lnS]; omega)) | (refine idx_mapN ?_; first | omega | (simp only [lnS]; omega)) | rfl)) (by simp only [pS, Value.cells, Nat.reduceAdd, pE] <;> rfl)) rfl ?_
   refine dr (ro_eq (ro_ld_ref k40_ty111 rfl up_h (nle rfl)) (by simp only [pS, Value.cells, Nat.reduceAdd, pE] <;> rfl)) rfl ?_
   refine dr (ro_fld_ptr qfl24_1 rfl (up_m rfl (u4 rfl s3_13))) rfl <| dr (ro_eq (ro_ld_ptr k40_ty22 rfl mo1_12 up_h (nle rfl)) (by simp only [pS, Value.cells, Nat.reduceAdd, pE] <;> rfl)) rfl ?_
   refine dr (ro_move (up_m rfl (u2 rfl (u4 rfl s5_13)))) rfl <| dr (ro_eq (ro_ix k40_sl22 (up_m rfl up_h) up_h (by omega) (by first | (refine idx_map ?_; first | omega | (simp only [lnS]; omega)) | (refine idx_mapI ?_; first | omega | (simp only [lnS]; omega)) | (refine idx_mapN ?_; first | omega | (simp only [lnS]; omega)) | rfl)) (by simp only [pS, Value.cells, Nat.reduceAdd, pE] <;> rfl)) rfl ?_
   refine dr (ro_eq (ro_ld_ref k40_ty111 rfl up_h (nle rfl)) (by simp only [pS, Value.cells, Nat.reduceAdd, pE] <;> rfl)) rfl ?_
   refine dr (ro_sqneq (up_m rfl (u4 rfl up_h)) up_h rfl rfl k40_gq111 k40_sq111 (by decide)) rfl ?_
   refine ds_nil <| ae4 (up_m rfl (u2 rfl (u8 rfl s2_13))) (up_m rfl (u2 rfl (u8 rfl s3_13))) (up_m rfl (u2 rfl (u8 rfl s5_13))) up_h ?_; clear s24_13 s2_13 s3_13 s5_13; intro e_15 s2_15 s3_15 s5_15 s37_15
   refine then_n <| aw_case s37_15 (fun hq_16 => ?_) (fun hq_16 => ?_)
   ·replace hq_16 := bt' hq_16
    refine aw_seq <| at_ <| ar (ro_assign ev_c) rfl <| ae1 up_h ?_; clear s2_15 s37_15 s3_15 s5_15; intro e_17 s4_17
    refine then_n <| aw_ret <| block_r <| then_r <| then_r <| block_r <| then_r <| ret1 (.inr rfl) (by kernel_rfl) (resV_tmp s4_17) (.ro _ rfl) ?_
    clear s4_17 mo1_12 mo0_12 ml_12
    (first | (unfold samB; rw [‹(na.toList == nb.toList) = false›]; rfl) | (unfold samB; rw [decide_eq_false (by rintro rfl; omega), Bool.and_false]) | (unfold samB; rw [decide_eq_false (by rintro rfl; exact dif_piece (by assumption) rfl), Bool.and_false]))
   replace hq_16 := bf' hq_16
   refine aw_skip <| block_n <| then_n <| at_ <| ar (ro_move s5_15) rfl ?_
   (refine ar (ro_add' up_h ev_c ?_) rfl ?_; · (unfold In64; omega))
   refine ar (ro_assign up_h) rfl <| ae3 (up_m rfl (u2 rfl s2_15)) (up_m rfl (u2 rfl s3_15)) up_h ?_; clear s2_15 s37_15 s3_15 s5_15; intro e_18 s2_18 s3_18 s5_18
   refine then_n <| ⟨_, ⟨s5_18, (s2_18.trans s2_11.symm), (s3_18.trans s3_11.symm), (mo1_12.trans mo1_2.symm), (mo0_12.trans mo0_2.symm), ml_12, ?_⟩, ?_⟩
   ·(refine ⟨by omega, by omega, fun j hj => ?_⟩; by_cases hji : j < i.toNat; (exact p3 j hji); (rw [show j = i.toNat by omega]; exact sam_piece (by assumption)))
   ·((try dsimp only); omega)
  replace hq_14 := bf hq_14
  refine aw_exit <| then_x <| then_x <| block_hit <| then_n <| aw_seq <| at_ <| ar (ro_assign ev_c) rfl <| ae1 up_h ?_; clear s24_13 s2_13 s3_13 s5_13; intro e_19 s4_19
  refine then_n <| aw_ret <| ret1 (.inr rfl) (by kernel_rfl) (resV_tmp s4_19) (.ro _ rfl) ?_
  clear s4_19 mo1_12 mo0_12 ml_12
  (unfold samB; rw [‹(na.toList == nb.toList) = true›, decide_eq_true (list_ext_getD (by omega) (fun j hj => p3 j (by omega)))]; rfl)
end Go.Proofs.YtjhcfpdgldpicaaGreatDoor
namespace Go.Proofs.YtjhcfpdgldpicaaGreatDoor
open Go Go.RowKit Go.Proofs Go.Shelf Go.Lib
theorem z35_hcf45 : ∀ args w, (callFunc 45 args).run Tryz.prog w = .ok (.enter 45 args) w := fun _ _ => by kernel_rfl
theorem z35_hcf46 : ∀ args w, (callFunc 46 args).run Tryz.prog w = .ok (.enter 46 args) w := fun _ _ => by kernel_rfl
theorem z35_hcf47 : ∀ args w, (callFunc 47 args).run Tryz.prog w = .ok (.enter 47 args) w := fun _ _ => by kernel_rfl
theorem z35_sl104 : SlIs Tryz.prog 104 9 1 16 (.string ByteArray.empty) := ⟨by kernel_rfl, by kernel_rfl, by kernel_rfl⟩
theorem z35_sl106 : SlIs Tryz.prog 106 198 2 24 (.agg #[.string ByteArray.empty, .int .i64 0]) := ⟨by kernel_rfl, by kernel_rfl, by kernel_rfl⟩
theorem z35_sl22 : SlIs Tryz.prog 22 111 4 32 (.agg #[.int .i64 0, .int .i64 0, .int .i64 0, .bool false]) := ⟨by kernel_rfl, by kernel_rfl, by kernel_rfl⟩
theorem z35_sl76 : SlIs Tryz.prog 76 3 1 8 (.int .i64 0) := ⟨by kernel_rfl, by kernel_rfl, by kernel_rfl⟩
theorem z35_ty22 : TyIs Tryz.prog 22 false 1 := ⟨by kernel_rfl, by kernel_rfl⟩
theorem z35_ty24 : TyIs Tryz.prog 24 true 2 := ⟨by kernel_rfl, by kernel_rfl⟩
theorem z35_ty28 : TyIs Tryz.prog 28 true 2 := ⟨by kernel_rfl, by kernel_rfl⟩
theorem z35_ty3 : TyIs Tryz.prog 3 false 1 := ⟨by kernel_rfl, by kernel_rfl⟩
theorem z35_ty9 : TyIs Tryz.prog 9 false 1 := ⟨by kernel_rfl, by kernel_rfl⟩
theorem one_pcL (r : LR) : [[AV.v (.int .i64 (r.l.getD 0 default)), AV.v (.int .i64 (r.l.getD 1 default)), AV.v (.int .i64 (r.l.getD 2 default)), AV.v (.bool r.lv)]] = [pcL r].map pE := rfl
theorem strip_F {L : List (List UInt8)} (hne : L ≠ []) (h : ((bs (L.getD ((L.length : Int) - 1).toNat default)).toList == (⟨#[]⟩ : ByteArray).toList) = false) : AV.row 1 (L.map lnE) = .row 1 ((strip L).map lnE) := by
 rcases strip_two hne with h2 | h2
 ·exfalso
  generalize strip L = cs at h2
  subst h2
  have e : (((cs ++ [[]]).length : Int) - 1).toNat = cs.length := by simp
  rw [e, show (⟨#[]⟩ : ByteArray) = bs [] from rfl, bs_toList, bs_toList] at h
  simp at h
 ·rw [← h2.1]
theorem strip_T {L : List (List UInt8)} {n : Nat} (hne : L ≠ []) (h : ((bs (L.getD ((L.length : Int) - 1).toNat default)).toList == (⟨#[]⟩ : ByteArray).toList) = true) (hn : n = L.length - 1) : AV.row 1 (List.take n (L.map lnE)) = .row 1 ((strip L).map lnE) := by
 rcases strip_two hne with h2 | h2
 ·generalize strip L = cs at h2 ⊢
  subst h2
  have e : n = cs.length := by rw [hn]; simp
  rw [e, List.map_append, List.take_left' (by simp)]
 ·exfalso
  have h3 := h2.2
  rw [show ((L.length : Int) - 1).toNat = L.length - 1 by omega, show (⟨#[]⟩ : ByteArray) = bs [] from rfl, bs_toList, bs_toList] at h
  exact h3 (eq_of_beq h)
set_option maxRecDepth 100000 in
set_option maxHeartbeats 4000000 in
theorem rParse_ok (tx : List UInt8) (hl : tx.length ≤ 1000000) : FnOk Tryz.prog 10 [.v (.string (bs tx))] (fun q => q = prA (prgP tx)) := by
 have hz : ∀ l : List UInt8, (bs l).size = l.length := bs_size
 have hz1 : (bs tx).size = tx.length := rfl
 by_cases hbig : 60000 < tx.length
 ·rw [prgP, if_pos hbig]
  refine fnOk_of (fn := Tryz.f10) 124 (by kernel_rfl) rfl (by kernel_rfl) (Nat.le_of_ble_eq_true rfl) ?_
  intro e_0 m_0 hA hm_0
  have s0_0 : evA e_0 (.tmp 0) = _ := hA 0 _ rfl
  have ml_0 : m_0.length = 0 := by rw [hm_0]; rfl
  clear hA hm_0
  refine aw_seq <| at_ <| al_stm (st_alloc qaz24 rfl ml_0) trivial rfl (fun m_1 hm_1 => ?_)
  have mo0_1 := m_push hm_1 ml_0
  simp only [pS, Value.cells, Nat.reduceAdd] at mo0_1
  have ml_1 := m_push_l hm_1 ml_0
  have ml_1 : _ = 1 := ml_1
  clear hm_1
  refine al_stm (st_alloc qaz28 rfl ml_1) trivial rfl (fun m_2 hm_2 => ?_)
  have mo1_2 := m_push hm_2 ml_1
  simp only [pS, Value.cells, Nat.reduceAdd] at mo1_2
  have mo0_2 := m_push_o hm_2 mo0_1
  have ml_2 := m_push_l hm_2 ml_1
  have ml_2 : _ = 2 := ml_2
  clear hm_2 mo0_1
  refine ar (ro_assign ev_c) rfl <| ae3 (up_m rfl (u2 rfl s0_0)) (u2 rfl up_h) (up_m rfl up_h) ?_; clear s0_0; intro e_3 s0_3 s2_3 s3_3
  refine then_n <| aw_seq <| aw_seq <| at_ <| ar (ro_move s0_3) rfl <| ar (ro_len_str up_h rfl qun9) rfl <| ar (ro_gtr up_h ev_c) rfl <| ae4 (up_m rfl (u2 rfl s0_3)) (up_m rfl (u2 rfl s2_3)) (up_m rfl (u2 rfl s3_3)) up_h ?_; clear s0_3 s2_3 s3_3; intro e_4 s0_4 s2_4 s3_4 s21_4
  refine then_n <| aw_case s21_4 (fun hq_5 => ?_) (fun hq_5 => ?_)
  ·replace hq_5 := bt hq_5
   refine aw_seq <| at_ <| ar (ro_build evP_nil qbz24 qbu24 qbp24 rfl) rfl ?_
   refine ar (ro_build evP_nil qbz28 qbu28 qbp28 rfl) rfl ?_
   refine al_stm (st_store (u2 rfl s2_4) (up_m rfl up_h) rfl rfl mo0_2 qsz24 rfl (nle rfl)) trivial rfl (fun m_6 hm_6 => ?_)
   have mo0_6 := m_set hm_6 mo0_2
   simp only [pS, Value.cells, Nat.reduceAdd] at mo0_6
   have mo1_6 := m_set_o hm_6 mo1_2 (by decide)
   have ml_6 := m_set_l hm_6 ml_2
   clear hm_6 mo1_2 mo0_2
   refine al_stm (st_store (up_n (u2 rfl s3_4)) (up_n up_h) rfl rfl mo1_6 qsz28 rfl (nle rfl)) trivial rfl (fun m_7 hm_7 => ?_)
   have mo1_7 := m_set hm_7 mo1_6
   simp only [pS, Value.cells, Nat.reduceAdd] at mo1_7
   have mo0_7 := m_set_o hm_7 mo0_6 (by decide)
   have ml_7 := m_set_l hm_7 ml_6
   clear hm_7 mo0_6 mo1_6
   refine ar (ro_assign ev_c) rfl <| ae3 (up_m rfl (up_n (up_n (u2 rfl s2_4)))) (up_m rfl (up_n (up_n (u2 rfl s3_4)))) up_h ?_; clear s0_4 s21_4 s2_4 s3_4; intro e_8 s2_8 s3_8 s4_8
   refine then_n <| aw_ret <| then_r <| ret3 (.inr rfl) (by kernel_rfl) (resV_cell s2_8 mo0_7 z35_ty24 (nle rfl) (by simp)) (resV_cell s3_8 mo1_7 z35_ty28 (nle rfl) (by simp)) (resV_tmp s4_8) (vw_r (vw_agg (vwl_cons (.ro _ rfl) (vwl_cons (.nil 4) vwl_nil)))) (vw_r (.ro _ rfl)) (.ro _ rfl) ?_
   clear s2_8 s3_8 s4_8 mo1_7 mo0_7 ml_7
   first | rfl | (simp; done) | (simp_all; done) | omega
  ·replace hq_5 := bf hq_5; exfalso; omega
 ·rw [prgP, if_neg hbig, lines_eq]
  obtain ⟨cs, hcs⟩ : ∃ cs, cs = strip (spl tx) := ⟨_, rfl⟩
  obtain ⟨R, hR⟩ : ∃ R, R = goP 0 ⟨[], [], []⟩ cs := ⟨_, rfl⟩
  rw [← hcs, ← hR]
  have hI0 : RInv cs 0 [] 0 [] [] R := ⟨by omega, hR.symm, by omega, by simp, rfl, by simp, by omega, fun _ => rfl⟩
  have hcl : ∀ k, (cs.getD k default).length ≤ tx.length := fun k => by rw [hcs]; exact spl_mem tx k
  have hC := cutR_ok tx hl
  have hll : cs.length ≤ tx.length := by rw [hcs, ← lines_eq, List.length_map]; exact linesY_len tx
  have hne := spl_ne tx
  have hlp := List.length_pos_iff.2 hne
  have hLl : (spl tx).length ≤ cs.length + 1 := by
   rw [hcs]
   unfold strip
   split
   ·rw [List.length_dropLast]; omega
   ·omega
  generalize spl tx = L at hC hcs hne hlp hLl
  clear hR
  refine fnOk_of (fn := Tryz.f10) 124 (by kernel_rfl) rfl (by kernel_rfl) (Nat.le_of_ble_eq_true rfl) ?_
  intro e_0 m_0 hA hm_0
  have s0_0 : evA e_0 (.tmp 0) = _ := hA 0 _ rfl
  have ml_0 : m_0.length = 0 := by rw [hm_0]; rfl
  clear hA hm_0
  refine aw_seq <| at_ <| al_stm (st_alloc qaz24 rfl ml_0) trivial rfl (fun m_1 hm_1 => ?_)
  have mo0_1 := m_push hm_1 ml_0
  simp only [pS, Value.cells, Nat.reduceAdd, lnE, one_pcL, one_iE, app_m, List.length_map] at mo0_1
  have ml_1 := m_push_l hm_1 ml_0
  have ml_1 : _ = 1 := ml_1
  clear hm_1
  refine al_stm (st_alloc qaz28 rfl ml_1) trivial rfl (fun m_2 hm_2 => ?_)
  have mo1_2 := m_push hm_2 ml_1
  simp only [pS, Value.cells, Nat.reduceAdd, lnE, one_pcL, one_iE, app_m, List.length_map] at mo1_2
  have mo0_2 := m_push_o hm_2 mo0_1
  have ml_2 := m_push_l hm_2 ml_1
  have ml_2 : _ = 2 := ml_2
  clear hm_2 mo0_1
  refine ar (ro_assign ev_c) rfl <| ae3 (up_m rfl (u2 rfl s0_0)) (u2 rfl up_h) (up_m rfl up_h) ?_; clear s0_0; intro e_3 s0_3 s2_3 s3_3
  refine then_n <| aw_seq <| aw_seq <| at_ <| ar (ro_move s0_3) rfl <| ar (ro_len_str up_h rfl qun9) rfl <| ar (ro_gtr up_h ev_c) rfl <| ae4 (up_m rfl (u2 rfl s0_3)) (up_m rfl (u2 rfl s2_3)) (up_m rfl (u2 rfl s3_3)) up_h ?_; clear s0_3 s2_3 s3_3; intro e_4 s0_4 s2_4 s3_4 s21_4
  refine then_n <| aw_case s21_4 (fun hq_5 => ?_) (fun hq_5 => ?_)
  ·replace hq_5 := bt hq_5; exfalso; omega
  replace hq_5 := bf hq_5
  refine aw_skip <| then_n <| aw_seq <| at_ <| ar (ro_move s0_4) rfl <| ar (ro_call (evL_cons up_h (evL_cons ev_c evL_nil)) rfl (hC) z35_hcf45) rfl <| ar (ro_assign up_h) rfl <| ae3 (up_m rfl (u2 rfl s2_4)) (up_m rfl (u2 rfl s3_4)) up_h ?_; clear s0_4 s21_4 s2_4 s3_4; intro e_6 s2_6 s3_6 s5_6
  refine then_n <| aw_seq <| aw_cut (fun e mem => (evA e (.tmp 5) = .row 1 (cs.map lnE)) ∧ (evA e (.tmp 2) = evA e_6 (.tmp 2)) ∧ (evA e (.tmp 3) = evA e_6 (.tmp 3)) ∧ m_2 = mem) ?_ ?_
  ·
   refine aw_seq <| at_ <| ar (ro_move s5_6) rfl <| ar (ro_move (up_m rfl s5_6)) rfl <| ar (ro_eq (ro_len_row up_h rfl z35_sl104.1) (by simp only [lnS] <;> rfl)) rfl ?_
   (refine ar (ro_sub' up_h ev_c ?_) rfl ?_; · (unfold In64; omega))
   refine ar (ro_eq (ro_ix z35_sl104 (up_m rfl (u2 rfl up_h)) up_h (by omega) (by first | (refine idx_map ?_; first | omega | (simp only [lnS]; omega)) | (refine idx_mapI ?_; first | omega | (simp only [lnS]; omega)) | (refine idx_mapN ?_; first | omega | (simp only [lnS]; omega)) | rfl)) (by simp only [pS, Value.cells, Nat.reduceAdd, lnE, one_pcL, one_iE, app_m, List.length_map] <;> rfl)) rfl ?_
   refine ar (ro_eq (ro_ld_ref z35_ty9 rfl up_h (nle rfl)) (by simp only [pS, Value.cells, Nat.reduceAdd, lnE, one_pcL, one_iE, app_m, List.length_map] <;> rfl)) rfl ?_
   refine ar (ro_seql up_h ev_c) rfl <| ae4 (up_m rfl (u2 rfl (u4 rfl s2_6))) (up_m rfl (u2 rfl (u4 rfl s3_6))) (up_m rfl (u2 rfl (u4 rfl s5_6))) up_h ?_; intro e_8 s2_8 s3_8 s5_8 s32_8
   refine then_n <| aw_case s32_8 (fun hq_9 => ?_) (fun hq_9 => ?_)
   ·skip
    refine at_ <| ar (ro_move s5_8) rfl <| ar (ro_move (up_m rfl s5_8)) rfl <| ar (ro_eq (ro_len_row up_h rfl z35_sl104.1) (by simp only [lnS] <;> rfl)) rfl ?_
    (refine ar (ro_sub' up_h ev_c ?_) rfl ?_; · (unfold In64; omega))
    refine ar (ro_slh z35_sl104 (up_m rfl (u2 rfl up_h)) up_h (by omega) (by simp only [lnS] <;> omega)) rfl ?_
    refine ar (ro_assign up_h) rfl <| ae3 (u2 rfl (u4 rfl s2_8)) (u2 rfl (u4 rfl s3_8)) up_h ?_; intro e_10 s2_10 s3_10 s5_10
    refine then_n ⟨(s5_10).trans (by (rw [hcs]; first | exact strip_T hne (by assumption) (by omega) | exact strip_F hne (by assumption))), (s2_10).trans (s2_6).symm, (s3_10).trans (s3_6).symm, rfl⟩
   refine aw_skip <| then_n ⟨(s5_8).trans (by (rw [hcs]; first | exact strip_T hne (by assumption) (by omega) | exact strip_F hne (by assumption))), (s2_8).trans (s2_6).symm, (s3_8).trans (s3_6).symm, rfl⟩
  ·rintro e_7 _ ⟨s5_7, k2_7, k3_7, rfl⟩
   have s2_7 := k2_7.trans s2_6
   have s3_7 := k3_7.trans s3_6
   refine aw_seq <| at_ <| al_stm (st_alloc qaz24 rfl ml_2) trivial rfl (fun m_11 hm_11 => ?_)
   have mo2_11 := m_push hm_11 ml_2
   simp only [pS, Value.cells, Nat.reduceAdd, lnE, one_pcL, one_iE, app_m, List.length_map] at mo2_11
   have mo1_11 := m_push_o hm_11 mo1_2
   have mo0_11 := m_push_o hm_11 mo0_2
   have ml_11 := m_push_l hm_11 ml_2
   have ml_11 : _ = 3 := ml_11
   clear hm_11 mo1_2 mo0_2
   refine ae4 (up_m rfl s2_7) (up_m rfl s3_7) (up_m rfl s5_7) up_h ?_; clear s2_7 s3_7 s5_7; intro e_12 s2_12 s3_12 s5_12 s6_12
   refine then_n <| aw_seq <| at_ <| ar (ro_assign ev_c) rfl <| ae5 (up_m rfl s2_12) (up_m rfl s3_12) (up_m rfl s5_12) (up_m rfl s6_12) up_h ?_; clear s2_12 s3_12 s5_12 s6_12; intro e_13 s2_13 s3_13 s5_13 s6_13 s7_13
   refine then_n <| aw_seq <| at_ <| ar (ro_assign ev_c) rfl <| ae6 (up_m rfl s2_13) (up_m rfl s3_13) (up_m rfl s5_13) (up_m rfl s6_13) (up_m rfl s7_13) up_h ?_; clear s2_13 s3_13 s5_13 s6_13 s7_13; intro e_14 s2_14 s3_14 s5_14 s6_14 s7_14 s8_14
   refine then_n <| aw_seq <| aw_seq <| at_ <| ar (ro_assign ev_c) rfl <| ae7 (up_m rfl s2_14) (up_m rfl s3_14) (up_m rfl s5_14) (up_m rfl s6_14) (up_m rfl s7_14) (up_m rfl s8_14) up_h ?_; clear s2_14 s3_14 s5_14 s6_14 s7_14 s8_14; intro e_15 s2_15 s3_15 s5_15 s6_15 s7_15 s8_15 s9_15
   refine then_n <| aw_block <| aw_adopt 3 1 s8_15 ml_11 (fun m_16 e_16 hm_16 he_16 => ?_)
   have mo3_16 := m_push hm_16 ml_11
   have mo2_16 := m_push_o hm_16 mo2_11
   have mo1_16 := m_push_o hm_16 mo1_11
   have mo0_16 := m_push_o hm_16 mo0_11
   have ml_16 := m_push_l hm_16 ml_11
   have ml_16 : _ = 4 := ml_16
   have s2_16 : evA e_16 (.tmp 2) = _ := (congrArg (fun q => evA q (.tmp 2)) he_16).trans (up_m rfl s2_15)
   have s3_16 : evA e_16 (.tmp 3) = _ := (congrArg (fun q => evA q (.tmp 3)) he_16).trans (up_m rfl s3_15)
   have s5_16 : evA e_16 (.tmp 5) = _ := (congrArg (fun q => evA q (.tmp 5)) he_16).trans (up_m rfl s5_15)
   have s6_16 : evA e_16 (.tmp 6) = _ := (congrArg (fun q => evA q (.tmp 6)) he_16).trans (up_m rfl s6_15)
   have s7_16 : evA e_16 (.tmp 7) = _ := (congrArg (fun q => evA q (.tmp 7)) he_16).trans (up_m rfl s7_15)
   have s8_16 : evA e_16 (.tmp 8) = _ := (congrArg (fun q => evA q (.tmp 8)) he_16).trans up_h
   have s9_16 : evA e_16 (.tmp 9) = _ := (congrArg (fun q => evA q (.tmp 9)) he_16).trans (up_m rfl s9_15)
   clear hm_16 he_16
   refine aw_adoptC 111 4 1 mo2_16 rfl ml_16 (fun m0_17 m_17 h0_17 h1_17 => ?_)
   have mp4_17 := m_push h0_17 ml_16
   have mo4_17 := m_set_o h1_17 mp4_17 (by decide)
   have mp2_17 := m_push_o h0_17 mo2_16
   have mo2_17 := m_set h1_17 mp2_17
   simp only [List.set_cons_zero, List.set_cons_succ] at mo2_17
   have mp1_17 := m_push_o h0_17 mo1_16
   have mo1_17 := m_set_o h1_17 mp1_17 (by decide)
   have mp0_17 := m_push_o h0_17 mo0_16
   have mo0_17 := m_set_o h1_17 mp0_17 (by decide)
   have mp3_17 := m_push_o h0_17 mo3_16
   have mo3_17 := m_set_o h1_17 mp3_17 (by decide)
   have mq_17 := m_push_l h0_17 ml_16
   have ml_17 : _ = 5 := m_set_l h1_17 mq_17
   clear h0_17 h1_17 mq_17 mp4_17 mp2_17 mp1_17 mp0_17 mp3_17
   refine aw_loop (S := (Int × List UInt8 × Int × Nat × List Piece × List Int)) (fun s e mem => match s with | ⟨i, nm, b, k, ps, az⟩ => (evA e (.tmp 9) = .v (.int .i64 i)) ∧ (evA e (.tmp 7) = .v (.int .i64 b)) ∧ (evA e (.tmp 2) = evA e_16 (.tmp 2)) ∧ (evA e (.tmp 3) = evA e_16 (.tmp 3)) ∧ (evA e (.tmp 5) = evA e_16 (.tmp 5)) ∧ (evA e (.tmp 6) = evA e_16 (.tmp 6)) ∧ (mem[2]? = some (.box 24 [.v (.string (bs nm)), .own k])) ∧ (mem[k]? = some (.row 111 4 (ps.map pE))) ∧ (mem[1]? = m_17[1]?) ∧ (mem[0]? = m_17[0]?) ∧ (∃ j, evA e (.tmp 8) = .own j ∧ mem[j]? = some (.row 3 1 (az.map iE)) ∧ j ≠ 1 ∧ j ≠ 0 ∧ j ≠ 2 ∧ j ≠ k) ∧ (∃ n, mem.length = n ∧ 5 ≤ n) ∧ ((3 ≤ k ∧ RInv cs i nm b ps az R))) (fun s => match s with | ⟨i, nm, b, k, ps, az⟩ => (cs.length - i).toNat) ⟨0, [], 0, _, [], []⟩ ⟨s9_16, s7_16, rfl, rfl, rfl, rfl, mo2_17, mo4_17, rfl, rfl, ⟨_, s8_16, mo3_17, (by decide), (by decide), (by decide), (by omega)⟩, ⟨_, ml_17, Nat.le_refl _⟩, ?_⟩ ?_
   ·exact ⟨by omega, hI0⟩
   ·rintro ⟨i, nm, b, k, ps, az⟩ e_18 m_18 ⟨s9_18, s7_18, k2_18, k3_18, k5_18, k6_18, mo2_18, mok_18, mk1_18, mk0_18, ⟨j8_18, s8_18, mo_j8_18, nj8_1_18, nj8_0_18, nj8_2_18, nj8_k_18⟩, ⟨n_18, ml_18, hn_18⟩, hinv⟩
    have s2_18 := k2_18.trans s2_16
    have s3_18 := k3_18.trans s3_16
    have s5_18 := k5_18.trans s5_16
    have s6_18 := k6_18.trans s6_16
    have mo1_18 := mk1_18.trans mo1_17
    have mo0_18 := mk0_18.trans mo0_17
    have jl8_18 := m_lt mo_j8_18 ml_18
    have jlk_18 := m_lt mok_18 ml_18
    (obtain ⟨p1, p2⟩ := hinv; have q1 := p2.i0; have q2 := p2.le; have q3 := p2.nm; have q4 := p2.pl; have q5 := p2.pi; have q6 := p2.b0; have hcl1 := hcl i.toNat; obtain ⟨ws, hws⟩ : ∃ w, w = wdsAt (cs.getD i.toNat default) 0 := ⟨_, rfl⟩; obtain ⟨hwb1, hwb2⟩ := wds_bound (cs.getD i.toNat default) (by omega); rw [← hws] at hwb1 hwb2; have hSp := split_ok (cs.getD i.toNat default) (by omega); rw [← hws] at hSp)
    refine aw_seq <| aw_seq <| at_ <| ar (ro_move s9_18) rfl <| ar (ro_move (up_m rfl s5_18)) rfl <| ar (ro_eq (ro_len_row up_h rfl z35_sl104.1) (by simp only [lnS] <;> rfl)) rfl ?_
    refine ar (ro_lss (u2 rfl up_h) up_h) rfl <| ae8 (u4 rfl s2_18) (u4 rfl s3_18) (u4 rfl s5_18) (u4 rfl s6_18) (u4 rfl s7_18) (u4 rfl s8_18) (u4 rfl s9_18) up_h ?_; clear s2_18 s3_18 s5_18 s6_18 s7_18 s8_18 s9_18; intro e_19 s2_19 s3_19 s5_19 s6_19 s7_19 s8_19 s9_19 s41_19
    refine then_n <| aw_case s41_19 (fun hq_20 => ?_) (fun hq_20 => ?_)
    ·replace hq_20 := bt hq_20
     have hlt := hq_20
     refine aw_skip <| then_n <| aw_seq <| aw_block <| aw_seq <| at_ <| ar (ro_move s5_19) rfl <| ar (ro_move (up_m rfl s9_19)) rfl <| ar (ro_eq (ro_ix z35_sl104 (up_m rfl up_h) up_h (by omega) (by first | (refine idx_map ?_; first | omega | (simp only [lnS]; omega)) | (refine idx_mapI ?_; first | omega | (simp only [lnS]; omega)) | (refine idx_mapN ?_; first | omega | (simp only [lnS]; omega)) | rfl)) (by simp only [pS, Value.cells, Nat.reduceAdd, lnE, one_pcL, one_iE, app_m, List.length_map] <;> rfl)) rfl ?_
     refine ar (ro_eq (ro_ld_ref z35_ty9 rfl up_h (nle rfl)) (by simp only [pS, Value.cells, Nat.reduceAdd, lnE, one_pcL, one_iE, app_m, List.length_map] <;> rfl)) rfl ?_
     refine ar (ro_call (evL_cons up_h evL_nil) rfl (hSp) z35_hcf46) rfl <| ar (ro_assign up_h) rfl <| ae8 (u2 rfl (u4 rfl s2_19)) (u2 rfl (u4 rfl s3_19)) (u2 rfl (u4 rfl s5_19)) (u2 rfl (u4 rfl s6_19)) (u2 rfl (u4 rfl s7_19)) (u2 rfl (u4 rfl s8_19)) (u2 rfl (u4 rfl s9_19)) up_h ?_; clear s2_19 s3_19 s41_19 s5_19 s6_19 s7_19 s8_19 s9_19; intro e_21 s2_21 s3_21 s5_21 s6_21 s7_21 s8_21 s9_21 s10_21
     refine then_n <| aw_seq <| aw_seq <| at_ <| ar (ro_move s10_21) rfl <| ar (ro_eq (ro_len_row up_h rfl z35_sl106.1) (by simp only [lnS] <;> rfl)) rfl ?_
     refine ar (ro_eql up_h ev_c) rfl ?_
     refine ae9 (up_m rfl (u2 rfl s2_21)) (up_m rfl (u2 rfl s3_21)) (up_m rfl (u2 rfl s5_21)) (up_m rfl (u2 rfl s6_21)) (up_m rfl (u2 rfl s7_21)) (up_m rfl (u2 rfl s8_21)) (up_m rfl (u2 rfl s9_21)) (up_m rfl (u2 rfl s10_21)) up_h ?_; clear s10_21 s2_21 s3_21 s5_21 s6_21 s7_21 s8_21 s9_21; intro e_22 s2_22 s3_22 s5_22 s6_22 s7_22 s8_22 s9_22 s10_22 s51_22
     refine then_n <| aw_case s51_22 (fun hq_23 => ?_) (fun hq_23 => ?_)
     ·replace hq_23 := bt hq_23
      have hw0 : ws = [] := List.eq_nil_of_length_eq_zero (by omega)
      refine aw_exit <| then_x <| block_hit <| then_n <| at_ <| ar (ro_move s9_22) rfl ?_
      (refine ar (ro_add' up_h ev_c ?_) rfl ?_; · (unfold In64; omega))
      refine ar (ro_assign up_h) rfl <| ae7 (up_m rfl (u2 rfl s2_22)) (up_m rfl (u2 rfl s3_22)) (up_m rfl (u2 rfl s5_22)) (up_m rfl (u2 rfl s6_22)) (up_m rfl (u2 rfl s7_22)) (up_m rfl (u2 rfl s8_22)) up_h ?_; clear s10_22 s2_22 s3_22 s51_22 s5_22 s6_22 s7_22 s8_22 s9_22; intro e_24 s2_24 s3_24 s5_24 s6_24 s7_24 s8_24 s9_24
      refine then_n <| ⟨⟨_, _, _, _, _, _⟩, ⟨s9_24, s7_24, (s2_24.trans s2_16.symm), (s3_24.trans s3_16.symm), (s5_24.trans s5_16.symm), (s6_24.trans s6_16.symm), mo2_18, mok_18, (mo1_18.trans mo1_17.symm), (mo0_18.trans mo0_17.symm), ⟨_, s8_24, mo_j8_18, nj8_1_18, nj8_0_18, nj8_2_18, nj8_k_18⟩, ⟨_, ml_18, by omega⟩, ?_⟩, ?_⟩
      ·first | exact ⟨p1, p2.skip (by omega) (by rw [← hws]; exact hw0)⟩ | exact ⟨p1, by rw [hws]; exact p2.head (by omega) (by omega) (by rw [← hws]; exact hw0) hb (by rw [← hws]; exact he)⟩ | exact ⟨by omega, by rw [hws]; exact p2.piece (by omega) (by rw [← hws]; exact hw0) hb (by rw [← hws]; exact he)⟩
      ·((try dsimp only); omega)
     replace hq_23 := bf hq_23
     (have hw0 : ws ≠ [] := (by rintro h_; rw [h_] at hq_23; simp at hq_23); have hwp := List.length_pos_iff.2 hw0)
     refine aw_skip <| then_n <| aw_seq <| at_ <| ar (ro_move s10_22) rfl <| ar (ro_move (up_m rfl s7_22)) rfl <| ar (ro_eql up_h ev_c) rfl ?_
     refine ar (ro_call (evL_cons (u2 rfl up_h) (evL_cons up_h evL_nil)) rfl (lineErr_any b ws hwp (by omega) hwb2) z35_hcf47) rfl ?_
     refine ar (ro_move up_h) rfl <| ar (ro_extract up_h rfl) rfl <| ar (ro_extract (up_m rfl up_h) rfl) rfl <| ar (ro_extract (u2 rfl up_h) rfl) rfl <| ar (ro_extract (up_m rfl (u2 rfl up_h)) rfl) rfl <| ar (ro_extract (u4 rfl up_h) rfl) rfl <| ar (ro_assign (u4 rfl up_h)) rfl <| ar (ro_assign (u4 rfl up_h)) rfl <| ar (ro_assign (u4 rfl up_h)) rfl <| ar (ro_assign (u4 rfl up_h)) rfl <| ar (ro_assign (u4 rfl up_h)) rfl <| ae12 (up_m rfl (u2 rfl (u4 rfl (u8 rfl s2_22)))) (up_m rfl (u2 rfl (u4 rfl (u8 rfl s3_22)))) (up_m rfl (u2 rfl (u4 rfl (u8 rfl s5_22)))) (up_m rfl (u2 rfl (u4 rfl (u8 rfl s6_22)))) (up_m rfl (u2 rfl (u4 rfl (u8 rfl s7_22)))) (up_m rfl (u2 rfl (u4 rfl (u8 rfl s8_22)))) (up_m rfl (u2 rfl (u4 rfl (u8 rfl s9_22)))) (u4 rfl up_h) (up_m rfl (u2 rfl up_h)) (u2 rfl up_h) (up_m rfl up_h) up_h ?_; clear s10_22 s2_22 s3_22 s51_22 s5_22 s6_22 s7_22 s8_22 s9_22; intro e_25 s2_25 s3_25 s5_25 s6_25 s7_25 s8_25 s9_25 s11_25 s12_25 s13_25 s14_25 s15_25
     refine then_n <| aw_seq <| aw_seq <| at_ <| ar (ro_move s15_25) rfl <| ar (ro_neq up_h ev_c) rfl <| ae13 (u2 rfl s2_25) (u2 rfl s3_25) (u2 rfl s5_25) (u2 rfl s6_25) (u2 rfl s7_25) (u2 rfl s8_25) (u2 rfl s9_25) (u2 rfl s11_25) (u2 rfl s12_25) (u2 rfl s13_25) (u2 rfl s14_25) (u2 rfl s15_25) up_h ?_; clear s11_25 s12_25 s13_25 s14_25 s15_25 s2_25 s3_25 s5_25 s6_25 s7_25 s8_25 s9_25; intro e_26 s2_26 s3_26 s5_26 s6_26 s7_26 s8_26 s9_26 s11_26 s12_26 s13_26 s14_26 s15_26 s63_26
     refine then_n <| aw_case s63_26 (fun hq_27 => ?_) (fun hq_27 => ?_)
     ·replace hq_27 := bnt hq_27
      have he : (lerB b ws).e ≠ 0 := hq_27
      refine aw_seq <| at_ <| ar (ro_build evP_nil qbz24 qbu24 qbp24 rfl) rfl ?_
      refine ar (ro_move (up_m rfl s9_26)) rfl ?_
      (refine ar (ro_add' up_h ev_c ?_) rfl ?_; · (unfold In64; omega))
      refine ar (ro_move (up_m rfl (u2 rfl s14_26))) rfl <| ar (ro_build (evP_cons (up_m rfl up_h) (evP_cons up_h evP_nil)) qbz28 qbu28 qbp28 rfl) rfl ?_
      refine ar (ro_move (up_m rfl (u4 rfl s15_26))) rfl <| al_stm (st_store (u2 rfl (u4 rfl s2_26)) (up_m rfl (u4 rfl up_h)) rfl rfl mo0_18 qsz24 rfl (nle rfl)) trivial rfl (fun m_28 hm_28 => ?_)
      have mo0_28 := m_set hm_28 mo0_18
      simp only [pS, Value.cells, Nat.reduceAdd, lnE, one_pcL, one_iE, app_m, List.length_map] at mo0_28
      have mo2_28 := m_set_o hm_28 mo2_18 (by decide)
      have mok_28 := m_set_o hm_28 mok_18 (by omega)
      have mo1_28 := m_set_o hm_28 mo1_18 (by decide)
      have moj8_18_28 := m_set_o hm_28 mo_j8_18 (by omega)
      have ml_28 := m_set_l hm_28 ml_18
      clear hm_28 mo2_18 mok_18 mo1_18 mo0_18 mo_j8_18
      refine al_stm (st_store (up_n (u2 rfl (u4 rfl s3_26))) (up_n (up_m rfl up_h)) rfl rfl mo1_28 qsz28 rfl (nle rfl)) trivial rfl (fun m_29 hm_29 => ?_)
      have mo1_29 := m_set hm_29 mo1_28
      simp only [pS, Value.cells, Nat.reduceAdd, lnE, one_pcL, one_iE, app_m, List.length_map] at mo1_29
      have mo0_29 := m_set_o hm_29 mo0_28 (by decide)
      have mo2_29 := m_set_o hm_29 mo2_28 (by decide)
      have mok_29 := m_set_o hm_29 mok_28 (by omega)
      have moj8_18_29 := m_set_o hm_29 moj8_18_28 (by omega)
      have ml_29 := m_set_l hm_29 ml_28
      clear hm_29 mo0_28 mo2_28 mok_28 mo1_28 moj8_18_28
      refine ar (ro_assign (up_n (up_n up_h))) rfl <| ae3 (up_m rfl (up_n (up_n (u2 rfl (u4 rfl s2_26))))) (up_m rfl (up_n (up_n (u2 rfl (u4 rfl s3_26))))) up_h ?_; clear s11_26 s12_26 s13_26 s14_26 s15_26 s2_26 s3_26 s5_26 s63_26 s6_26 s7_26 s8_26 s9_26; intro e_30 s2_30 s3_30 s4_30
      refine then_n <| aw_ret <| then_r <| block_r <| then_r <| then_r <| block_r <| then_r <| ret3 (.inr rfl) (by kernel_rfl) (resV_cell s2_30 mo0_29 z35_ty24 (nle rfl) (by simp)) (resV_cell s3_30 mo1_29 z35_ty28 (nle rfl) (by simp)) (resV_tmp s4_30) (vw_r (vw_agg (vwl_cons (.ro _ rfl) (vwl_cons (.nil 4) vwl_nil)))) (vw_r (.ro _ rfl)) (.ro _ rfl) ?_
      clear s2_30 s3_30 s4_30 mo1_29 mo0_29 mo2_29 mok_29 moj8_18_29 ml_29
      (rw [p2.stop (by omega) (by rw [← hws]; exact hw0) (by rw [← hws]; exact he), ← hws]; rfl)
     replace hq_27 := bnf hq_27
     have he : (lerB b ws).e = 0 := hq_27
     refine aw_skip <| then_n <| aw_seq <| aw_seq <| at_ <| ar (ro_move s7_26) rfl <| ar (ro_eql up_h ev_c) rfl ?_
     refine ae11 (u2 rfl s2_26) (u2 rfl s3_26) (u2 rfl s5_26) (u2 rfl s6_26) (u2 rfl s7_26) (u2 rfl s8_26) (u2 rfl s9_26) (u2 rfl s11_26) (u2 rfl s12_26) (u2 rfl s13_26) up_h ?_; clear s11_26 s12_26 s13_26 s14_26 s15_26 s2_26 s3_26 s5_26 s63_26 s6_26 s7_26 s8_26 s9_26; intro e_31 s2_31 s3_31 s5_31 s6_31 s7_31 s8_31 s9_31 s11_31 s12_31 s13_31 s71_31
     refine then_n <| aw_case s71_31 (fun hq_32 => ?_) (fun hq_32 => ?_)
     ·replace hq_32 := bt hq_32
      have hb : b = 0 := hq_32
      refine aw_seq <| at_ <| ar (ro_move s11_31) rfl <| ar (ro_move (up_m rfl s9_31)) rfl ?_
      (refine ar (ro_add' up_h ev_c ?_) rfl ?_; · (unfold In64; omega))
      refine ar (ro_fld_ptr qfl24_0 rfl (up_m rfl (u2 rfl s6_31))) rfl <| al_stm (st_store up_h (up_m rfl (u2 rfl up_h)) rfl rfl mo2_18 qsz9 rfl (nle rfl)) trivial rfl (fun m_33 hm_33 => ?_)
      have mo2_33 := m_set hm_33 mo2_18
      simp only [pS, Value.cells, Nat.reduceAdd, lnE, one_pcL, one_iE, app_m, List.length_map] at mo2_33
      have mok_33 := m_set_o hm_33 mok_18 (by omega)
      have mo1_33 := m_set_o hm_33 mo1_18 (by decide)
      have mo0_33 := m_set_o hm_33 mo0_18 (by decide)
      have moj8_18_33 := m_set_o hm_33 mo_j8_18 (by omega)
      have ml_33 := m_set_l hm_33 ml_18
      clear hm_33 mo2_18 mok_18 mo1_18 mo0_18 mo_j8_18
      refine ar (ro_assign (up_n (up_m rfl up_h))) rfl <| ae7 (up_m rfl (up_n (u4 rfl s2_31))) (up_m rfl (up_n (u4 rfl s3_31))) (up_m rfl (up_n (u4 rfl s5_31))) (up_m rfl (up_n (u4 rfl s6_31))) up_h (up_m rfl (up_n (u4 rfl s8_31))) (up_m rfl (up_n (u4 rfl s9_31))) ?_; clear s11_31 s12_31 s13_31 s2_31 s3_31 s5_31 s6_31 s71_31 s7_31 s8_31 s9_31; intro e_34 s2_34 s3_34 s5_34 s6_34 s7_34 s8_34 s9_34
      refine then_n <| aw_exit <| then_x <| block_hit <| then_n <| at_ <| ar (ro_move s9_34) rfl ?_
      (refine ar (ro_add' up_h ev_c ?_) rfl ?_; · (unfold In64; omega))
      refine ar (ro_assign up_h) rfl <| ae7 (up_m rfl (u2 rfl s2_34)) (up_m rfl (u2 rfl s3_34)) (up_m rfl (u2 rfl s5_34)) (up_m rfl (u2 rfl s6_34)) (up_m rfl (u2 rfl s7_34)) (up_m rfl (u2 rfl s8_34)) up_h ?_; clear s2_34 s3_34 s5_34 s6_34 s7_34 s8_34 s9_34; intro e_35 s2_35 s3_35 s5_35 s6_35 s7_35 s8_35 s9_35
      refine then_n <| ⟨⟨_, _, _, _, _, _⟩, ⟨s9_35, s7_35, (s2_35.trans s2_16.symm), (s3_35.trans s3_16.symm), (s5_35.trans s5_16.symm), (s6_35.trans s6_16.symm), mo2_33, mok_33, (mo1_33.trans mo1_17.symm), (mo0_33.trans mo0_17.symm), ⟨_, s8_35, moj8_18_33, nj8_1_18, nj8_0_18, nj8_2_18, nj8_k_18⟩, ⟨_, ml_33, by omega⟩, ?_⟩, ?_⟩
      ·first | exact ⟨p1, p2.skip (by omega) (by rw [← hws]; exact hw0)⟩ | exact ⟨p1, by rw [hws]; exact p2.head (by omega) (by omega) (by rw [← hws]; exact hw0) hb (by rw [← hws]; exact he)⟩ | exact ⟨by omega, by rw [hws]; exact p2.piece (by omega) (by rw [← hws]; exact hw0) hb (by rw [← hws]; exact he)⟩
      ·((try dsimp only); omega)
     replace hq_32 := bf hq_32
     (have hb : ¬ b = 0 := hq_32; have h3 : (lerB b ws).l.length = 3 := (by rw [show lerB b ws = lerP ws from if_neg hb] at he ⊢; exact lerP_three hwp he))
     refine aw_skip <| then_n <| aw_drawK 21 2 ml_18 (by kernel_rfl) (by kernel_rfl) (by kernel_rfl) (by kernel_rfl) (fun m_36 hm_36 => ?_)
     have mo2_36 := m_room_o hm_36 mo2_18
     have mok_36 := m_room_o hm_36 mok_18
     have mo1_36 := m_room_o hm_36 mo1_18
     have mo0_36 := m_room_o hm_36 mo0_18
     have moj8_18_36 := m_room_o hm_36 mo_j8_18
     have mon_18_36 : m_36[n_18]? = _ := m_room_g hm_36 ml_18 0 rfl rfl
     have mon_18_1_36 : m_36[n_18 + 1]? = _ := m_room_g hm_36 ml_18 1 rfl rfl
     have ml_36 : _ = n_18 + 2 := m_room_l (K := 2) hm_36 ml_18
     clear hm_36 mo2_18 mok_18 mo1_18 mo0_18 mo_j8_18 ml_18
     refine dh_ro (fun M_ hM_ => (ro_fld_ptr qfl24_1 rfl s6_31)) trivial ?_
     refine dh_ld (2) (fun M_ hM_ => (ro_eq (ro_ld_ptr z35_ty22 rfl (agr hM_ mo2_36 (by simp)) up_h (nle rfl)) (by simp only [pS, Value.cells, Nat.reduceAdd, lnE, one_pcL, one_iE, app_m, List.length_map] <;> rfl))) trivial trivial ?_
     refine dh_ro (fun M_ hM_ => (ro_move (u2 rfl s12_31))) trivial ?_
     refine dh_ro (fun M_ hM_ => (ro_eq (ro_ix z35_sl76 up_h ev_c (by decide) (by refine idx_map ?_; first | omega | (simp only [lnS]; omega))) (by simp only [pS, Value.cells, Nat.reduceAdd, lnE, one_pcL, one_iE, app_m, List.length_map] <;> rfl))) trivial ?_
     refine dh_ro (fun M_ hM_ => (ro_eq (ro_ld_ref z35_ty3 rfl up_h (nle rfl)) (by simp only [pS, Value.cells, Nat.reduceAdd, lnE, one_pcL, one_iE, app_m, List.length_map] <;> rfl))) trivial ?_
     refine dh_ro (fun M_ hM_ => (ro_move (up_m rfl (u4 rfl s12_31)))) trivial ?_
     refine dh_ro (fun M_ hM_ => (ro_eq (ro_ix z35_sl76 up_h ev_c (by decide) (by refine idx_map ?_; first | omega | (simp only [lnS]; omega))) (by simp only [pS, Value.cells, Nat.reduceAdd, lnE, one_pcL, one_iE, app_m, List.length_map] <;> rfl))) trivial ?_
     refine dh_ro (fun M_ hM_ => (ro_eq (ro_ld_ref z35_ty3 rfl up_h (nle rfl)) (by simp only [pS, Value.cells, Nat.reduceAdd, lnE, one_pcL, one_iE, app_m, List.length_map] <;> rfl))) trivial ?_
     refine dh_ro (fun M_ hM_ => (ro_move (u8 rfl s12_31))) trivial ?_
     refine dh_ro (fun M_ hM_ => (ro_eq (ro_ix z35_sl76 up_h ev_c (by decide) (by refine idx_map ?_; first | omega | (simp only [lnS]; omega))) (by simp only [pS, Value.cells, Nat.reduceAdd, lnE, one_pcL, one_iE, app_m, List.length_map] <;> rfl))) trivial ?_
     refine dh_ro (fun M_ hM_ => (ro_eq (ro_ld_ref z35_ty3 rfl up_h (nle rfl)) (by simp only [pS, Value.cells, Nat.reduceAdd, lnE, one_pcL, one_iE, app_m, List.length_map] <;> rfl))) trivial ?_
     refine dh_ro (fun M_ hM_ => (ro_move (up_m rfl (u2 rfl (u8 rfl s13_31))))) trivial ?_
     refine dh_ro (fun M_ hM_ => (ro_build (evP_cons (up_m rfl (u2 rfl (u4 rfl up_h))) (evP_cons (u4 rfl up_h) (evP_cons (up_m rfl up_h) (evP_cons up_h evP_nil)))) qbz111 qbu111 qbp111 rfl)) trivial ?_
     refine dh_ro (fun M_ hM_ => (ro_lit z35_sl22 (evP_cons up_h evP_nil) rfl rfl rfl rfl)) trivial ?_
     refine dh_sw (n_18) (k) (fun M_ hM_ => (sw_app z35_sl22 rfl (agr hM_ mok_36 (by simp)) (u4 rfl (u8 rfl up_h)) up_h (by rfl) (by simp only [lnS] <;> omega))) trivial mon_18_36 rfl trivial ⟨.inl (by simp <;> omega), trivial⟩ ⟨.inl (by simp <;> omega), trivial⟩ (fun m_37 hm_37 => ?_)
     have mon_18_37 := m_sw hm_37 mon_18_36
     simp only [pS, Value.cells, Nat.reduceAdd, lnE, one_pcL, one_iE, app_m, List.length_map] at mon_18_37
     have mo2_37 := m_sw_o hm_37 mo2_36 (by omega) (by omega)
     have mo1_37 := m_sw_o hm_37 mo1_36 (by omega) (by omega)
     have mo0_37 := m_sw_o hm_37 mo0_36 (by omega) (by omega)
     have moj8_18_37 := m_sw_o hm_37 moj8_18_36 (by omega) (by omega)
     have mon_18_1_37 := m_sw_o hm_37 mon_18_1_36 (by omega) (by omega)
     have ml_37 := m_sw_l hm_37 ml_36
     clear hm_37 mo2_36 mok_36 mo1_36 mo0_36 moj8_18_36 mon_18_36 mon_18_1_36
     refine dh_ro (fun M_ hM_ => (ro_move (up_m rfl (u2 rfl (u4 rfl (u8 rfl s8_31)))))) trivial ?_
     refine dh_ro (fun M_ hM_ => (ro_move (u16 rfl s9_31))) trivial ?_
     (refine dh_ro (fun M_ hM_ => (ro_add' up_h ev_c ?_)) trivial ?_; · (unfold In64; omega))
     refine dh_ro (fun M_ hM_ => (ro_lit z35_sl76 (evP_cons up_h evP_nil) rfl rfl rfl rfl)) trivial ?_
     refine dh_sw (n_18 + 1) (j8_18) (fun M_ hM_ => (sw_app z35_sl76 rfl (agr hM_ moj8_18_37 (by simp)) (up_m rfl (u2 rfl up_h)) up_h (by rfl) (by simp only [lnS] <;> omega))) trivial mon_18_1_37 rfl ⟨.inl (by simp <;> omega), ⟨.inl (by simp <;> omega), trivial⟩⟩ ⟨.inl (by simp <;> omega), ⟨.inl (by simp <;> omega), trivial⟩⟩ ⟨.inl (by simp <;> omega), ⟨.inl (by simp <;> omega), trivial⟩⟩ (fun m_38 hm_38 => ?_)
     have mon_18_1_38 := m_sw hm_38 mon_18_1_37
     simp only [pS, Value.cells, Nat.reduceAdd, lnE, one_pcL, one_iE, app_m, List.length_map] at mon_18_1_38
     have mon_18_38 := m_sw_o hm_38 mon_18_37 (by omega) (by omega)
     have mo2_38 := m_sw_o hm_38 mo2_37 (by omega) (by omega)
     have mo1_38 := m_sw_o hm_38 mo1_37 (by omega) (by omega)
     have mo0_38 := m_sw_o hm_38 mo0_37 (by omega) (by omega)
     have ml_38 := m_sw_l hm_38 ml_37
     clear hm_38 mon_18_37 mo2_37 mo1_37 mo0_37 moj8_18_37 mon_18_1_37
     refine dh_ro (fun M_ hM_ => (ro_fld_ptr qfl24_1 rfl (u4 rfl (u16 rfl s6_31)))) trivial ?_
     refine dh_nil rfl ?_
     refine al_stm (st_store_own up_h (u2 rfl (u4 rfl up_h)) mo2_38 mon_18_38 qsz22 (nle rfl)) trivial rfl (fun m_39 hm_39 => ?_)
     have mo2_39 := m_set hm_39 mo2_38
     simp only [pS, Value.cells, Nat.reduceAdd, lnE, one_pcL, one_iE, app_m, List.length_map] at mo2_39
     have mon_18_1_39 := m_set_o hm_39 mon_18_1_38 (by omega)
     have mon_18_39 := m_set_o hm_39 mon_18_38 (by omega)
     have mo1_39 := m_set_o hm_39 mo1_38 (by decide)
     have mo0_39 := m_set_o hm_39 mo0_38 (by decide)
     have ml_39 := m_set_l hm_39 ml_38
     clear hm_39 mon_18_1_38 mon_18_38 mo2_38 mo1_38 mo0_38
     refine ar (ro_assign (up_n (up_m rfl up_h))) rfl <| ae7 (up_m rfl (up_n (up_m rfl (u4 rfl (u16 rfl s2_31))))) (up_m rfl (up_n (up_m rfl (u4 rfl (u16 rfl s3_31))))) (up_m rfl (up_n (up_m rfl (u4 rfl (u16 rfl s5_31))))) (up_m rfl (up_n (up_m rfl (u4 rfl (u16 rfl s6_31))))) (up_m rfl (up_n (up_m rfl (u4 rfl (u16 rfl s7_31))))) up_h (up_m rfl (up_n (up_m rfl (u4 rfl (u16 rfl s9_31))))) ?_; clear s11_31 s12_31 s13_31 s2_31 s3_31 s5_31 s6_31 s71_31 s7_31 s8_31 s9_31; intro e_40 s2_40 s3_40 s5_40 s6_40 s7_40 s8_40 s9_40
     refine block_n <| then_n <| at_ <| ar (ro_move s9_40) rfl ?_
     (refine ar (ro_add' up_h ev_c ?_) rfl ?_; · (unfold In64; omega))
     refine ar (ro_assign up_h) rfl <| ae7 (up_m rfl (u2 rfl s2_40)) (up_m rfl (u2 rfl s3_40)) (up_m rfl (u2 rfl s5_40)) (up_m rfl (u2 rfl s6_40)) (up_m rfl (u2 rfl s7_40)) (up_m rfl (u2 rfl s8_40)) up_h ?_; clear s2_40 s3_40 s5_40 s6_40 s7_40 s8_40 s9_40; intro e_41 s2_41 s3_41 s5_41 s6_41 s7_41 s8_41 s9_41
     refine then_n <| ⟨⟨_, _, _, _, _, _⟩, ⟨s9_41, s7_41, (s2_41.trans s2_16.symm), (s3_41.trans s3_16.symm), (s5_41.trans s5_16.symm), (s6_41.trans s6_16.symm), mo2_39, mon_18_39, (mo1_39.trans mo1_17.symm), (mo0_39.trans mo0_17.symm), ⟨_, s8_41, mon_18_1_39, (by omega), (by omega), (by omega), (by omega)⟩, ⟨_, ml_39, by omega⟩, ?_⟩, ?_⟩
     ·first | exact ⟨p1, p2.skip (by omega) (by rw [← hws]; exact hw0)⟩ | exact ⟨p1, by rw [hws]; exact p2.head (by omega) (by omega) (by rw [← hws]; exact hw0) hb (by rw [← hws]; exact he)⟩ | exact ⟨by omega, by rw [hws]; exact p2.piece (by omega) (by rw [← hws]; exact hw0) hb (by rw [← hws]; exact he)⟩
     ·((try dsimp only); omega)
    replace hq_20 := bf hq_20
    refine aw_exit <| then_x <| then_x <| block_hit <| then_n <| aw_seq <| aw_seq <| at_ <| ar (ro_move s7_19) rfl <| ar (ro_eql up_h ev_c) rfl ?_
    refine ae7 (u2 rfl s2_19) (u2 rfl s3_19) (u2 rfl s5_19) (u2 rfl s6_19) (u2 rfl s7_19) (u2 rfl s8_19) up_h ?_; clear s2_19 s3_19 s41_19 s5_19 s6_19 s7_19 s8_19 s9_19; intro e_42 s2_42 s3_42 s5_42 s6_42 s7_42 s8_42 s98_42
    refine then_n <| aw_case s98_42 (fun hq_43 => ?_) (fun hq_43 => ?_)
    ·replace hq_43 := bt hq_43
     have hb7 : b = 0 := hq_43
     refine aw_seq <| at_ <| ar (ro_build evP_nil qbz24 qbu24 qbp24 rfl) rfl ?_
     refine ar (ro_move (up_m rfl s5_42)) rfl <| ar (ro_eq (ro_len_row up_h rfl z35_sl104.1) (by simp only [lnS] <;> rfl)) rfl ?_
     (refine ar (ro_add' up_h ev_c ?_) rfl ?_; · (unfold In64; omega))
     refine ar (ro_build (evP_cons up_h (evP_cons ev_c evP_nil)) qbz28 qbu28 qbp28 rfl) rfl ?_
     refine al_stm (st_store (up_m rfl (u4 rfl s2_42)) (u4 rfl up_h) rfl rfl mo0_18 qsz24 rfl (nle rfl)) trivial rfl (fun m_44 hm_44 => ?_)
     have mo0_44 := m_set hm_44 mo0_18
     simp only [pS, Value.cells, Nat.reduceAdd, lnE, one_pcL, one_iE, app_m, List.length_map] at mo0_44
     have mo2_44 := m_set_o hm_44 mo2_18 (by decide)
     have mok_44 := m_set_o hm_44 mok_18 (by omega)
     have mo1_44 := m_set_o hm_44 mo1_18 (by decide)
     have moj8_18_44 := m_set_o hm_44 mo_j8_18 (by omega)
     have ml_44 := m_set_l hm_44 ml_18
     clear hm_44 mo2_18 mok_18 mo1_18 mo0_18 mo_j8_18
     refine al_stm (st_store (up_n (up_m rfl (u4 rfl s3_42))) (up_n up_h) rfl rfl mo1_44 qsz28 rfl (nle rfl)) trivial rfl (fun m_45 hm_45 => ?_)
     have mo1_45 := m_set hm_45 mo1_44
     simp only [pS, Value.cells, Nat.reduceAdd, lnE, one_pcL, one_iE, app_m, List.length_map] at mo1_45
     have mo0_45 := m_set_o hm_45 mo0_44 (by decide)
     have mo2_45 := m_set_o hm_45 mo2_44 (by decide)
     have mok_45 := m_set_o hm_45 mok_44 (by omega)
     have moj8_18_45 := m_set_o hm_45 moj8_18_44 (by omega)
     have ml_45 := m_set_l hm_45 ml_44
     clear hm_45 mo0_44 mo2_44 mok_44 mo1_44 moj8_18_44
     refine ar (ro_assign ev_c) rfl <| ae3 (up_m rfl (up_n (up_n (up_m rfl (u4 rfl s2_42))))) (up_m rfl (up_n (up_n (up_m rfl (u4 rfl s3_42))))) up_h ?_; clear s2_42 s3_42 s5_42 s6_42 s7_42 s8_42 s98_42; intro e_46 s2_46 s3_46 s4_46
     refine then_n <| aw_ret <| then_r <| ret3 (.inr rfl) (by kernel_rfl) (resV_cell s2_46 mo0_45 z35_ty24 (nle rfl) (by simp)) (resV_cell s3_46 mo1_45 z35_ty28 (nle rfl) (by simp)) (resV_tmp s4_46) (vw_r (vw_agg (vwl_cons (.ro _ rfl) (vwl_cons (.nil 4) vwl_nil)))) (vw_r (.ro _ rfl)) (.ro _ rfl) ?_
     clear s2_46 s3_46 s4_46 mo1_45 mo0_45 mo2_45 mok_45 moj8_18_45 ml_45
     (rw [p2.fin0 (by omega) hb7]; rfl)
    replace hq_43 := bf hq_43
    have hb7 : ¬ b = 0 := hq_43
    refine aw_skip <| then_n <| aw_seq <| aw_seq <| aw_freezeF 1 mo2_18 mok_18 (by omega) rfl (fun m_47 hm_47 => ?_)
    have mo2_47 := m_set hm_47 (m_set_o rfl mo2_18 (by omega))
    simp only [List.set_cons_zero, List.set_cons_succ] at mo2_47
    have mo1_47 := m_set_o hm_47 (m_set_o rfl mo1_18 (by omega)) (by decide)
    have mo0_47 := m_set_o hm_47 (m_set_o rfl mo0_18 (by omega)) (by decide)
    have moj8_18_47 := m_set_o hm_47 (m_set_o rfl mo_j8_18 (by omega)) (by omega)
    have ml_47 := m_set_l hm_47 (m_set_l rfl ml_18)
    clear hm_47 mo2_18 mok_18 mo1_18 mo0_18 mo_j8_18
    refine at_ <| ar (ro_eq (ro_ld_ptr z35_ty24 rfl mo2_47 s6_42 (nle rfl)) (by simp only [pS, Value.cells, Nat.reduceAdd, lnE, one_pcL, one_iE, app_m, List.length_map] <;> rfl)) rfl ?_
    refine ar (ro_call (evL_cons up_h evL_nil) rfl (rCheckTrack_ok (bs nm) ps (by rw [hz]; omega) (by omega)) qhcf48) rfl ?_
    refine ar (ro_move up_h) rfl <| ar (ro_extract up_h rfl) rfl <| ar (ro_extract (up_m rfl up_h) rfl) rfl <| ar (ro_assign (up_m rfl up_h)) rfl <| ar (ro_assign (up_m rfl up_h)) rfl <| ae7 (up_m rfl (u2 rfl (u4 rfl s2_42))) (up_m rfl (u2 rfl (u4 rfl s3_42))) (up_m rfl (u2 rfl (u4 rfl s6_42))) (up_m rfl (u2 rfl (u4 rfl s7_42))) (up_m rfl (u2 rfl (u4 rfl s8_42))) (up_m rfl up_h) up_h ?_; clear s2_42 s3_42 s5_42 s6_42 s7_42 s8_42 s98_42; intro e_48 s2_48 s3_48 s6_48 s7_48 s8_48 s16_48 s17_48
    refine then_n <| aw_seq <| at_ <| ar (ro_move s17_48) rfl <| ar (ro_neq up_h ev_c) rfl <| ae8 (u2 rfl s2_48) (u2 rfl s3_48) (u2 rfl s6_48) (u2 rfl s7_48) (u2 rfl s8_48) (u2 rfl s16_48) (u2 rfl s17_48) up_h ?_; clear s16_48 s17_48 s2_48 s3_48 s6_48 s7_48 s8_48; intro e_49 s2_49 s3_49 s6_49 s7_49 s8_49 s16_49 s17_49 s110_49
    refine then_n <| aw_case s110_49 (fun hq_50 => ?_) (fun hq_50 => ?_)
    ·replace hq_50 := bnt hq_50
     have hc8 : ¬ (chk (bs nm) ps).2 = 0 := hq_50
     refine aw_seq <| at_ <| ar (ro_move s7_49) rfl <| ar (ro_assign up_h) rfl <| ae6 (u2 rfl s2_49) (u2 rfl s3_49) (u2 rfl s8_49) (u2 rfl s16_49) (u2 rfl s17_49) up_h ?_; clear s110_49 s16_49 s17_49 s2_49 s3_49 s6_49 s7_49 s8_49; intro e_51 s2_51 s3_51 s8_51 s16_51 s17_51 s18_51
     refine then_n <| aw_seq <| aw_seq <| at_ <| ar (ro_move s17_51) rfl <| ar (ro_eql up_h ev_c) rfl ?_
     refine ae7 (u2 rfl s2_51) (u2 rfl s3_51) (u2 rfl s8_51) (u2 rfl s16_51) (u2 rfl s17_51) (u2 rfl s18_51) up_h ?_; clear s16_51 s17_51 s18_51 s2_51 s3_51 s8_51; intro e_52 s2_52 s3_52 s8_52 s16_52 s17_52 s18_52 s113_52
     refine then_n <| aw_case s113_52 (fun hq_53 => ?_) (fun hq_53 => ?_)
     ·replace hq_53 := bt hq_53
      (have hc9 : (chk (bs nm) ps).2 = 2 := hq_53; have hr9 := chk_rng hc9)
      refine at_ <| ar (ro_move s8_52) rfl <| ar (ro_move (up_m rfl s16_52)) rfl <| ar (ro_ix_own z35_sl76 moj8_18_47 (up_m rfl up_h) up_h (by omega) (by simp only [lnS] <;> omega)) rfl ?_
      refine ar (ro_eq (ro_ld_el z35_ty3 rfl moj8_18_47 up_h (nle rfl) (by first | (refine idx_map ?_; first | omega | (simp only [lnS]; omega)) | (refine idx_mapI ?_; first | omega | (simp only [lnS]; omega)) | (refine idx_mapN ?_; first | omega | (simp only [lnS]; omega)) | rfl)) (by simp only [pS, Value.cells, Nat.reduceAdd, lnE, one_pcL, one_iE, app_m, List.length_map] <;> rfl)) rfl ?_
      refine ar (ro_assign up_h) rfl <| ae4 (up_m rfl (u4 rfl s2_52)) (up_m rfl (u4 rfl s3_52)) (up_m rfl (u4 rfl s17_52)) up_h ?_; clear s113_52 s16_52 s17_52 s18_52 s2_52 s3_52 s8_52; intro e_54 s2_54 s3_54 s17_54 s18_54
      refine then_n <| aw_seq <| at_ <| ar (ro_build evP_nil qbz24 qbu24 qbp24 rfl) rfl ?_
      refine ar (ro_move (up_m rfl s18_54)) rfl <| ar (ro_build (evP_cons up_h (evP_cons ev_c evP_nil)) qbz28 qbu28 qbp28 rfl) rfl ?_
      refine ar (ro_move (up_m rfl (u2 rfl s17_54))) rfl <| al_stm (st_store (u4 rfl s2_54) (up_m rfl (u2 rfl up_h)) rfl rfl mo0_47 qsz24 rfl (nle rfl)) trivial rfl (fun m_55 hm_55 => ?_)
      have mo0_55 := m_set hm_55 mo0_47
      simp only [pS, Value.cells, Nat.reduceAdd, lnE, one_pcL, one_iE, app_m, List.length_map] at mo0_55
      have mo2_55 := m_set_o hm_55 mo2_47 (by decide)
      have mo1_55 := m_set_o hm_55 mo1_47 (by decide)
      have moj8_18_55 := m_set_o hm_55 moj8_18_47 (by omega)
      have ml_55 := m_set_l hm_55 ml_47
      clear hm_55 mo2_47 mo1_47 mo0_47 moj8_18_47
      refine al_stm (st_store (up_n (u4 rfl s3_54)) (up_n (up_m rfl up_h)) rfl rfl mo1_55 qsz28 rfl (nle rfl)) trivial rfl (fun m_56 hm_56 => ?_)
      have mo1_56 := m_set hm_56 mo1_55
      simp only [pS, Value.cells, Nat.reduceAdd, lnE, one_pcL, one_iE, app_m, List.length_map] at mo1_56
      have mo0_56 := m_set_o hm_56 mo0_55 (by decide)
      have mo2_56 := m_set_o hm_56 mo2_55 (by decide)
      have moj8_18_56 := m_set_o hm_56 moj8_18_55 (by omega)
      have ml_56 := m_set_l hm_56 ml_55
      clear hm_56 mo0_55 mo2_55 mo1_55 moj8_18_55
      refine ar (ro_assign (up_n (up_n up_h))) rfl <| ae3 (up_m rfl (up_n (up_n (u4 rfl s2_54)))) (up_m rfl (up_n (up_n (u4 rfl s3_54)))) up_h ?_; clear s17_54 s18_54 s2_54 s3_54; intro e_57 s2_57 s3_57 s4_57
      refine then_n <| aw_ret <| then_r <| ret3 (.inr rfl) (by kernel_rfl) (resV_cell s2_57 mo0_56 z35_ty24 (nle rfl) (by simp)) (resV_cell s3_57 mo1_56 z35_ty28 (nle rfl) (by simp)) (resV_tmp s4_57) (vw_r (vw_agg (vwl_cons (.ro _ rfl) (vwl_cons (.nil 4) vwl_nil)))) (vw_r (.ro _ rfl)) (.ro _ rfl) ?_
      clear s2_57 s3_57 s4_57 mo1_56 mo0_56 mo2_56 moj8_18_56 ml_56
      (rw [p2.fin2 (by omega) hb7 hc8, if_pos hc9]; rfl)
     replace hq_53 := bf hq_53
     have hc9 : ¬ (chk (bs nm) ps).2 = 2 := hq_53
     refine aw_skip <| then_n <| aw_seq <| at_ <| ar (ro_build evP_nil qbz24 qbu24 qbp24 rfl) rfl ?_
     refine ar (ro_move (up_m rfl s18_52)) rfl <| ar (ro_build (evP_cons up_h (evP_cons ev_c evP_nil)) qbz28 qbu28 qbp28 rfl) rfl ?_
     refine ar (ro_move (up_m rfl (u2 rfl s17_52))) rfl <| al_stm (st_store (u4 rfl s2_52) (up_m rfl (u2 rfl up_h)) rfl rfl mo0_47 qsz24 rfl (nle rfl)) trivial rfl (fun m_58 hm_58 => ?_)
     have mo0_58 := m_set hm_58 mo0_47
     simp only [pS, Value.cells, Nat.reduceAdd, lnE, one_pcL, one_iE, app_m, List.length_map] at mo0_58
     have mo2_58 := m_set_o hm_58 mo2_47 (by decide)
     have mo1_58 := m_set_o hm_58 mo1_47 (by decide)
     have moj8_18_58 := m_set_o hm_58 moj8_18_47 (by omega)
     have ml_58 := m_set_l hm_58 ml_47
     clear hm_58 mo2_47 mo1_47 mo0_47 moj8_18_47
     refine al_stm (st_store (up_n (u4 rfl s3_52)) (up_n (up_m rfl up_h)) rfl rfl mo1_58 qsz28 rfl (nle rfl)) trivial rfl (fun m_59 hm_59 => ?_)
     have mo1_59 := m_set hm_59 mo1_58
     simp only [pS, Value.cells, Nat.reduceAdd, lnE, one_pcL, one_iE, app_m, List.length_map] at mo1_59
     have mo0_59 := m_set_o hm_59 mo0_58 (by decide)
     have mo2_59 := m_set_o hm_59 mo2_58 (by decide)
     have moj8_18_59 := m_set_o hm_59 moj8_18_58 (by omega)
     have ml_59 := m_set_l hm_59 ml_58
     clear hm_59 mo0_58 mo2_58 mo1_58 moj8_18_58
     refine ar (ro_assign (up_n (up_n up_h))) rfl <| ae3 (up_m rfl (up_n (up_n (u4 rfl s2_52)))) (up_m rfl (up_n (up_n (u4 rfl s3_52)))) up_h ?_; clear s113_52 s16_52 s17_52 s18_52 s2_52 s3_52 s8_52; intro e_60 s2_60 s3_60 s4_60
     refine then_n <| aw_ret <| then_r <| ret3 (.inr rfl) (by kernel_rfl) (resV_cell s2_60 mo0_59 z35_ty24 (nle rfl) (by simp)) (resV_cell s3_60 mo1_59 z35_ty28 (nle rfl) (by simp)) (resV_tmp s4_60) (vw_r (vw_agg (vwl_cons (.ro _ rfl) (vwl_cons (.nil 4) vwl_nil)))) (vw_r (.ro _ rfl)) (.ro _ rfl) ?_
     clear s2_60 s3_60 s4_60 mo1_59 mo0_59 mo2_59 moj8_18_59 ml_59
     (rw [p2.fin2 (by omega) hb7 hc8, if_neg hc9]; rfl)
    replace hq_50 := bnf hq_50
    have hc8 : (chk (bs nm) ps).2 = 0 := hq_50
    refine aw_skip <| then_n <| aw_seq <| at_ <| ar (ro_eq (ro_ld_ptr z35_ty24 rfl mo2_47 s6_49 (nle rfl)) (by simp only [pS, Value.cells, Nat.reduceAdd, lnE, one_pcL, one_iE, app_m, List.length_map] <;> rfl)) rfl ?_
    refine ar (ro_build evP_nil qbz28 qbu28 qbp28 rfl) rfl ?_
    refine al_stm (st_store (u2 rfl s2_49) (up_m rfl up_h) rfl rfl mo0_47 qsz24 rfl (nle rfl)) trivial rfl (fun m_61 hm_61 => ?_)
    have mo0_61 := m_set hm_61 mo0_47
    simp only [pS, Value.cells, Nat.reduceAdd, lnE, one_pcL, one_iE, app_m, List.length_map] at mo0_61
    have mo2_61 := m_set_o hm_61 mo2_47 (by decide)
    have mo1_61 := m_set_o hm_61 mo1_47 (by decide)
    have moj8_18_61 := m_set_o hm_61 moj8_18_47 (by omega)
    have ml_61 := m_set_l hm_61 ml_47
    clear hm_61 mo2_47 mo1_47 mo0_47 moj8_18_47
    refine al_stm (st_store (up_n (u2 rfl s3_49)) (up_n up_h) rfl rfl mo1_61 qsz28 rfl (nle rfl)) trivial rfl (fun m_62 hm_62 => ?_)
    have mo1_62 := m_set hm_62 mo1_61
    simp only [pS, Value.cells, Nat.reduceAdd, lnE, one_pcL, one_iE, app_m, List.length_map] at mo1_62
    have mo0_62 := m_set_o hm_62 mo0_61 (by decide)
    have mo2_62 := m_set_o hm_62 mo2_61 (by decide)
    have moj8_18_62 := m_set_o hm_62 moj8_18_61 (by omega)
    have ml_62 := m_set_l hm_62 ml_61
    clear hm_62 mo0_61 mo2_61 mo1_61 moj8_18_61
    refine ar (ro_assign ev_c) rfl <| ae3 (up_m rfl (up_n (up_n (u2 rfl s2_49)))) (up_m rfl (up_n (up_n (u2 rfl s3_49)))) up_h ?_; clear s110_49 s16_49 s17_49 s2_49 s3_49 s6_49 s7_49 s8_49; intro e_63 s2_63 s3_63 s4_63
    refine then_n <| aw_ret <| ret3 (.inr rfl) (by kernel_rfl) (resV_cell s2_63 mo0_62 z35_ty24 (nle rfl) (by simp)) (resV_cell s3_63 mo1_62 z35_ty28 (nle rfl) (by simp)) (resV_tmp s4_63) (vw_r (.ro _ rfl)) (vw_r (.ro _ rfl)) (.ro _ rfl) ?_
    clear s2_63 s3_63 s4_63 mo1_62 mo0_62 mo2_62 moj8_18_62 ml_62
    (rw [p2.fin1 (by omega) hb7 hc8]; rfl)
end Go.Proofs.YtjhcfpdgldpicaaGreatDoor
