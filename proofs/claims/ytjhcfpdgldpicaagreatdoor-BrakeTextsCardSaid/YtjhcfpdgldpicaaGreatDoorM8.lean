/- Texts of this claim, one behind the other: lemmas for the statement. -/
import Derived.Test.YtjhcfpdgldpicaaGreatDoorM7
import Derived.Test.YtjhcfpdgldpicaaGreatDoorT0
import Derived.Test.YtjhcfpdgldpicaaGreatDoorA42
import Derived.Shelf.Strings.OnBuilder
import Derived.Test.YtjhcfpdgldpicaaGreatDoorM3
import Derived.Lib.IndexLaws
import Derived.Shelf.Strings.FuncGrows
import Derived.Test.YtjhcfpdgldpicaaGreatDoorM6
set_option linter.unusedSimpArgs false
set_option linter.unusedVariables false
namespace Go.Proofs.YtjhcfpdgldpicaaGreatDoor
open Go Go.RowKit Go.Proofs Go.Lib
def bs (l : List UInt8) : ByteArray := ⟨l.toArray⟩
theorem bs_app (a b : List UInt8) : bs a ++ bs b = bs (a ++ b) := by
 apply ByteArray.ext
 rw [ByteArray.data_append]
 simp [bs]
theorem bs_size (l : List UInt8) : (bs l).size = l.length := rfl
theorem bs_list (l : List UInt8) : (bs l).data.toList = l := rfl
theorem bs_toList (l : List UInt8) : (bs l).toList = l := by
 have := extract_toList (bs l) 0 (bs l).size
 rw [ByteArray.extract_zero_size] at this
 rw [this, bs_list, bs_size]; simp
theorem bs_self (s : ByteArray) : bs s.data.toList = s := rfl
theorem bs_ext (l : List UInt8) (a b : Nat) : (bs l).extract a b = bs ((l.drop a).take (b - a)) := by
 have h := extract_data (bs l) a b
 rw [bs_list] at h
 rw [← bs_self ((bs l).extract a b), h]
theorem idx_ge (l : List UInt8) (c : UInt8) : -1 ≤ indexByte l c ∧ indexByte l c < l.length := by
 induction l with
 | nil => simp [indexByte]
 | cons a l ih =>
  simp only [indexByte, List.length_cons]
  split
  ·omega
  ·split
   ·omega
   ·omega
end Go.Proofs.YtjhcfpdgldpicaaGreatDoor
namespace Go.Proofs.YtjhcfpdgldpicaaGreatDoor
open Go Go.RowKit Go.Proofs Go.Shelf Go.Lib
theorem z20_fl121_1 : FldIs Tryz.prog 121 1 1 false 1 := by unfold FldIs; kernel_rfl
theorem z20_hcf113 : ∀ args w, (callFunc 113 args).run Tryz.prog w = .ok (.enter 113 args) w := fun _ _ => by kernel_rfl
theorem z20_sl119 : SlIs Tryz.prog 119 5 1 1 (.int .u8 0) := ⟨by kernel_rfl, by kernel_rfl, by kernel_rfl⟩
theorem z20_sz119 : (Tryz.prog.info? 119).map (·.size) = some 1 := by kernel_rfl
theorem z20_ty119 : TyIs Tryz.prog 119 false 1 := ⟨by kernel_rfl, by kernel_rfl⟩
theorem z20_up202 : Tryz.prog.underlying 202 = some (.pointer 5) := by kernel_rfl
def lay156_ren : Go.Shelf.Ren := ⟨fun | 156 => 52 | 165 => 115 | 166 => 50 | 169 => 53 | 240 => 113 | 241 => 155 | 276 => 153 | 277 => 171 | n => n, fun | 31 => 104 | 9 => 9 | 3 => 3 | 4 => 4 | 0 => 0 | 20 => 20 | 72 => 121 | 76 => 124 | 70 => 118 | 37 => 119 | 75 => 123 | 127 => 202 | 164 => 228 | 5 => 5 | 80 => 100 | n => n, fun | n => n⟩
theorem lay156 : Go.Proofs.Lays.n156 Tryz.prog lay156_ren := {
 mixed := by kernel_rfl
 f156 := Tryz.func52.trans (congrArg some (by kernel_rfl))
 f165 := Tryz.func115.trans (congrArg some (by kernel_rfl))
 f166 := Tryz.func50.trans (congrArg some (by kernel_rfl))
 f169 := Tryz.func53.trans (congrArg some (by kernel_rfl))
 f240 := Tryz.func113.trans (congrArg some (by kernel_rfl))
 f241 := Tryz.func155.trans (congrArg some (by kernel_rfl))
 f276 := Tryz.func153.trans (congrArg some (by kernel_rfl))
 f277 := Tryz.func171.trans (congrArg some (by kernel_rfl))
 t0 := Tryz.underlying0
 a0 := Tryz.isAgg0
 z0 := Tryz.sizeOf0
 v0 := Tryz.zeroValue0
 t3 := Tryz.underlying3
 a3 := Tryz.isAgg3
 z3 := Tryz.sizeOf3
 v3 := Tryz.zeroValue3
 t4 := Tryz.underlying4
 a4 := Tryz.isAgg4
 z4 := Tryz.sizeOf4
 v4 := Tryz.zeroValue4
 t9 := Tryz.underlying9
 a9 := Tryz.isAgg9
 z9 := Tryz.sizeOf9
 v9 := Tryz.zeroValue9
 t20 := Tryz.underlying20
 a20 := Tryz.isAgg20
 z20 := Tryz.sizeOf20
 v20 := Tryz.zeroValue20
 t31 := Tryz.underlying104
 a31 := Tryz.isAgg104
 z31 := Tryz.sizeOf104
 v31 := Tryz.zeroValue104
 t37 := Tryz.underlying119
 a37 := Tryz.isAgg119
 z37 := Tryz.sizeOf119
 v37 := Tryz.zeroValue119
 t70 := Tryz.underlying118
 a70 := Tryz.isAgg118
 z70 := Tryz.sizeOf118
 v70 := Tryz.zeroValue118
 t72 := Tryz.underlying121
 a72 := Tryz.isAgg121
 z72 := Tryz.sizeOf121
 v72 := Tryz.zeroValue121
 t75 := Tryz.underlying123
 a75 := Tryz.isAgg123
 z75 := Tryz.sizeOf123
 v75 := Tryz.zeroValue123
 t76 := Tryz.underlying124
 a76 := Tryz.isAgg124
 z76 := Tryz.sizeOf124
 v76 := Tryz.zeroValue124
 t127 := Tryz.underlying202
 a127 := Tryz.isAgg202
 z127 := Tryz.sizeOf202
 v127 := Tryz.zeroValue202
 t164 := Tryz.underlying228
 a164 := Tryz.isAgg228
 z164 := Tryz.sizeOf228
 v164 := Tryz.zeroValue228 }
theorem lay240 : Lays.n240 Tryz.prog lay156_ren := { lay156 with }
theorem lay72 : Builder.X72 Tryz.prog lay156_ren := ⟨by kernel_rfl, by kernel_rfl⟩
theorem ptr_one {θ : List Value} {pr : Nat → Prop} {w : World} {o : Nat} {vs : List Value} {j : Nat} (h1 : vs.length = [AV.ptr j o].length) (h2 : ∀ (i : Nat) (b : AV) (x : Value), [AV.ptr j o][i]? = some b → vs[i]? = some x → R1 θ pr w b x) : ∃ b y, vs = [.pointer (some ⟨b, o, none⟩)] ∧ θ[j]? = some y ∧ baseOf y = some b := by
 match vs, h1 with
 | [v], _ =>
  obtain ⟨b, y, h3, h4, rfl⟩ := (h2 0 _ v rfl rfl).getPtr
  exact ⟨b, y, rfl, h3, h4⟩
theorem copyCheck_used (a : AV) (l : List Ob) : FnMu Tryz.prog [] 113 [.ptr 1 0] (.box 121 [.ptr 1 0, a] :: l) (.tuple []) (.box 121 [.ptr 1 0, a] :: l) := by
 intro pb w θ vs hs h1 h2
 obtain ⟨b, y, rfl, h3, h4⟩ := ptr_one h1 h2
 obtain ⟨b', xs, q1, rfl, q3, q4, q5⟩ := hs.ob 1 (.box _ _) y rfl h3
 cases h4
 match xs, q4 with
 | [x0, x1], _ =>
  obtain ⟨b2, y2, r1, r2, rfl⟩ := (q5 0 _ x0 rfl rfl).getPtr
  rw [h3] at r1; cases r1; cases r2
  refine (Any.Builder_copyCheck_used lay240 lay72 b' w (by simp [World.cell?, q3])).mono ?_
  rintro en w' ⟨rfl, rfl⟩
  exact ⟨.tuple [], .tuple #[], θ, _, .tuple [] [] rfl (fun i a u ha => by simp at ha), Step.refl hs, by simp, .inl ⟨rfl, rfl, rfl⟩⟩
theorem copyCheck_fresh (a : AV) : FnMu Tryz.prog [] 113 [.ptr 1 0] [.box 121 [.v (.pointer none), a]] (.tuple []) [.box 121 [.ptr 1 0, a]] := by
 intro pb w θ vs hs h1 h2
 obtain ⟨b, y, rfl, h3, h4⟩ := ptr_one h1 h2
 obtain ⟨b', xs, q1, rfl, q3, q4, q5⟩ := hs.ob 1 (.box _ _) y rfl h3
 cases h4
 match xs, q4 with
 | [x0, x1], _ =>
  have e0 := (q5 0 _ x0 rfl rfl).val
  subst e0
  refine (Any.Builder_copyCheck_fresh lay240 lay72 b' w (by simp [World.cell?, q3]) (by simp only [World.shape?, q3]; rfl) (Go.Lib.frozen_of_heap q3 0)).mono ?_
  rintro en w' ⟨rfl, rfl⟩
  have hb : w.setCell ⟨b', 0, none⟩ (.pointer (some ⟨b', 0, none⟩)) = w.setCell ⟨b', 0, none⟩ (.pointer (some ⟨b', 0, none⟩)) := rfl
  refine ⟨.tuple [], .tuple #[], θ, _, .tuple [] [] rfl (fun i a u ha => by simp at ha), Step.write hs (j := 1) (o' := .box _ [.ptr 1 0, a]) rfl (by simp) h3 ?_ ?_ ?_, by simp, .inl ⟨rfl, rfl, rfl⟩⟩
  ·exact ⟨rfl, rfl, rfl, by simp [World.setCell], fun k hk => by omega⟩
  ·intro b hb hne
   exact heap_setCell_other w _ b _ (fun e => hne (by rw [e]; rfl))
  ·intro pr keep
   refine ⟨b', [.pointer (some ⟨b', 0, none⟩), x1], q1, rfl, heap_setCell_same w b' 0 _ _ _ q3, rfl, fun i a2 x ha hx => ?_⟩
   rcases i with _ | _ | i
   ·simp at ha hx; subst ha hx; exact .ptr 1 0 b' _ h3 rfl
   ·simp at ha hx; subst ha hx; exact keep _ _ (q5 1 _ x1 rfl rfl)
   ·simp at ha
set_option maxRecDepth 100000 in
set_option maxHeartbeats 4000000 in
theorem writeString_fresh (s : ByteArray) (hs : s.size ≤ 1000000) : FnMu Tryz.prog [] 50 [.ptr 1 0, .v (.string s)] [.box 121 [.v (.pointer none), .v (.slice none 0 0)]] (.tuple [.v (.int .i64 s.size), .v .nilIface]) [.box 121 [.ptr 1 0, .own 2], .row 5 1 (s.data.toList.map bE)] := by
 refine fnMu_of (fn := Tryz.f50) [] 19 (by kernel_rfl) rfl (by kernel_rfl) (Nat.le_of_ble_eq_true rfl) ?_
 intro e_0 m_0 hA hm_0
 have s0_0 : evA e_0 (.tmp 0) = _ := hA 0 _ rfl
 have s1_0 : evA e_0 (.tmp 1) = _ := hA 1 _ rfl
 have ml_0 : m_0.length = 2 := by rw [hm_0]; rfl
 have mo0_0 := m_in0 hm_0
 have mo1_0 := m_in1 hm_0
 clear hA hm_0
 refine aw_seq <| at_ <| ar (ro_assign ev_c) rfl <| ar (ro_assign ev_c) rfl <| ae2 (u2 rfl s0_0) (u2 rfl s1_0) ?_; clear s0_0 s1_0; intro e_1 s0_1 s1_1
 refine then_n <| aw_seq <| at_ <| ar (ro_move s0_1) rfl <| al_stm (st_muE (st_mu' (copyCheck_fresh (.v (.slice none 0 0))) [1] ml_0 (evL_cons up_h evL_nil) (by first | exact .nil | exact .refl mo0_0 | exact .at_ mo0_0 (by simp [*])) (by decide) (.ob mo1_0 .nil) rfl z20_hcf113) (rn_ro rfl)) trivial rfl (fun m_2 hm_2 => ?_)
 have mo1_2 : m_2[1]? = some _ := m_ups_t hm_2 (Nat.le_of_ble_eq_true rfl) (by decide) (lt_cons mo1_0 lt_nil) 0 rfl rfl
 (try simp only [Ob.rn, rn, rn.rnL, rho, List.length_cons, List.length_nil, List.getElem?_cons_zero, List.getElem?_cons_succ, List.getElem?_nil, Nat.reduceAdd, Nat.reduceSub, Nat.add_zero, Nat.sub_self] at mo1_2)
 have mo0_2 := m_ups_o hm_2 (Nat.le_of_ble_eq_true rfl) mo0_0 (by decide)
 have ml_2 : _ = 2 := m_ups_l hm_2 ml_0 0 rfl
 clear hm_2 mo0_0 mo1_0 ml_0
 refine ae2 (u2 rfl s0_1) (u2 rfl s1_1) ?_; clear s0_1 s1_1; intro e_3 s0_3 s1_3
 refine then_n <| aw_seq <| at_ <| ar (ro_move s0_3) rfl <| ar (ro_move (up_m rfl s0_3)) rfl <| ar (ro_nilP up_h) rfl <| ar (ro_fld_ptr z20_fl121_1 rfl up_h) rfl <| ar (ro_eq (ro_ld_ptr z20_ty119 rfl mo1_2 up_h (nle rfl)) (by simp only [pS, Value.cells, Nat.reduceAdd] <;> rfl)) rfl ?_
 refine ar (ro_move (up_m rfl (u4 rfl s1_3))) rfl <| al_stm (st_appS0 z20_sl119 qun9 ml_2 (up_m rfl up_h) up_h (by omega)) trivial rfl (fun m_4 hm_4 => ?_)
 have mo2_4 := m_push hm_4 ml_2
 have mo1_4 := m_push_o hm_4 mo1_2
 have mo0_4 := m_push_o hm_4 mo0_2
 have ml_4 := m_push_l hm_4 ml_2
 have ml_4 : _ = 3 := ml_4
 clear hm_4 mo1_2 mo0_2
 refine ar (ro_nilP (u2 rfl (u4 rfl up_h))) rfl <| ar (ro_fld_ptr z20_fl121_1 rfl up_h) rfl <| al_stm (st_store_own up_h (u2 rfl up_h) mo1_4 mo2_4 z20_sz119 (nle rfl)) trivial rfl (fun m_5 hm_5 => ?_)
 have mo1_5 := m_set hm_5 mo1_4
 simp only [pS, Value.cells, Nat.reduceAdd] at mo1_5
 have mo2_5 := m_set_o hm_5 mo2_4 (by decide)
 have mo0_5 := m_set_o hm_5 mo0_4 (by decide)
 have ml_5 := m_set_l hm_5 ml_4
 clear hm_5 mo2_4 mo1_4 mo0_4
 refine ae1 (up_n (up_m rfl (u8 rfl s1_3))) ?_; clear s0_3 s1_3; intro e_6 s1_6
 refine then_n <| aw_seq <| at_ <| ar (ro_move s1_6) rfl <| ar (ro_len_str up_h rfl qun9) rfl <| ar (ro_assign up_h) rfl <| ar (ro_assign ev_c) rfl <| ae2 (up_m rfl up_h) up_h ?_; clear s1_6; intro e_7 s4_7 s5_7
 refine then_n <| aw_ret <| muQ_eq (.inr rfl) [1, 2] ml_5 mo0_5 (by decide) rfl (resM2 (by kernel_rfl) (resV_tmp s4_7) (resV_tmp s5_7)) (emb_ob mo1_5 ?_ (emb_ob mo2_5 ?_ .nil)) ?_
 all_goals (first | rfl | (simp; done) | (simp_all; done) | omega)
set_option maxRecDepth 100000 in
set_option maxHeartbeats 4000000 in
theorem writeString_used (s : ByteArray) (els : List (List AV)) (hs : s.size ≤ 1000000) (he : els.length ≤ 1000000000) : FnMu Tryz.prog [] 50 [.ptr 1 0, .v (.string s)] [.box 121 [.ptr 1 0, .own 2], .row 5 1 els] (.tuple [.v (.int .i64 s.size), .v .nilIface]) [.box 121 [.ptr 1 0, .own 3], .gone, .row 5 1 (els ++ s.data.toList.map bE)] := by
 refine fnMu_of (fn := Tryz.f50) [] 19 (by kernel_rfl) rfl (by kernel_rfl) (Nat.le_of_ble_eq_true rfl) ?_
 intro e_0 m_0 hA hm_0
 have s0_0 : evA e_0 (.tmp 0) = _ := hA 0 _ rfl
 have s1_0 : evA e_0 (.tmp 1) = _ := hA 1 _ rfl
 have ml_0 : m_0.length = 3 := by rw [hm_0]; rfl
 have mo0_0 := m_in0 hm_0
 have mo1_0 := m_in1 hm_0
 have mo2_0 := m_in2 hm_0
 clear hA hm_0
 refine aw_seq <| at_ <| ar (ro_assign ev_c) rfl <| ar (ro_assign ev_c) rfl <| ae2 (u2 rfl s0_0) (u2 rfl s1_0) ?_; clear s0_0 s1_0; intro e_1 s0_1 s1_1
 refine then_n <| aw_seq <| at_ <| ar (ro_move s0_1) rfl <| al_stm (st_muE (st_mu' (copyCheck_used (.own 2) [.row 5 1 els]) [1, 2] ml_0 (evL_cons up_h evL_nil) (by first | exact .nil | exact .refl mo0_0 | exact .at_ mo0_0 (by simp [*])) (by decide) (.ob mo1_0 (.ob mo2_0 .nil)) rfl z20_hcf113) (rn_ro rfl)) trivial rfl (fun m_2 hm_2 => ?_)
 have mo1_2 : m_2[1]? = some _ := m_ups_t hm_2 (Nat.le_of_ble_eq_true rfl) (by decide) (lt_cons mo1_0 (lt_cons mo2_0 lt_nil)) 0 rfl rfl
 (try simp only [Ob.rn, rn, rn.rnL, rho, List.length_cons, List.length_nil, List.getElem?_cons_zero, List.getElem?_cons_succ, List.getElem?_nil, Nat.reduceAdd, Nat.reduceSub, Nat.add_zero, Nat.sub_self] at mo1_2)
 have mo2_2 : m_2[2]? = some _ := m_ups_t hm_2 (Nat.le_of_ble_eq_true rfl) (by decide) (lt_cons mo1_0 (lt_cons mo2_0 lt_nil)) 1 rfl rfl
 (try simp only [Ob.rn, rn, rn.rnL, rho, List.length_cons, List.length_nil, List.getElem?_cons_zero, List.getElem?_cons_succ, List.getElem?_nil, Nat.reduceAdd, Nat.reduceSub, Nat.add_zero, Nat.sub_self] at mo2_2)
 have mo0_2 := m_ups_o hm_2 (Nat.le_of_ble_eq_true rfl) mo0_0 (by decide)
 have ml_2 : _ = 3 := m_ups_l hm_2 ml_0 0 rfl
 clear hm_2 mo0_0 mo1_0 mo2_0 ml_0
 refine ae2 (u2 rfl s0_1) (u2 rfl s1_1) ?_; clear s0_1 s1_1; intro e_3 s0_3 s1_3
 refine then_n <| aw_seq <| at_ <| ar (ro_move s0_3) rfl <| ar (ro_move (up_m rfl s0_3)) rfl <| ar (ro_nilP up_h) rfl <| ar (ro_fld_ptr z20_fl121_1 rfl up_h) rfl <| ar (ro_eq (ro_ld_ptr z20_ty119 rfl mo1_2 up_h (nle rfl)) (by simp only [pS, Value.cells, Nat.reduceAdd] <;> rfl)) rfl ?_
 refine ar (ro_move (up_m rfl (u4 rfl s1_3))) rfl <| al_stm (st_appS z20_sl119 qun9 ml_2 mo2_2 (up_m rfl up_h) up_h (by omega)) trivial rfl (fun m_4 hm_4 => ?_)
 have mo3_4 := m_swap hm_4 ml_2
 have mo1_4 := m_swap_o hm_4 mo1_2 (by decide)
 have mo0_4 := m_swap_o hm_4 mo0_2 (by decide)
 have ml_4 := m_swap_l hm_4 ml_2
 have ml_4 : _ = 4 := ml_4
 clear hm_4 mo1_2 mo2_2 mo0_2
 refine ar (ro_nilP (u2 rfl (u4 rfl up_h))) rfl <| ar (ro_fld_ptr z20_fl121_1 rfl up_h) rfl <| al_stm (st_store_own up_h (u2 rfl up_h) mo1_4 mo3_4 z20_sz119 (nle rfl)) trivial rfl (fun m_5 hm_5 => ?_)
 have mo1_5 := m_set hm_5 mo1_4
 simp only [pS, Value.cells, Nat.reduceAdd] at mo1_5
 have mo3_5 := m_set_o hm_5 mo3_4 (by decide)
 have mo0_5 := m_set_o hm_5 mo0_4 (by decide)
 have ml_5 := m_set_l hm_5 ml_4
 clear hm_5 mo3_4 mo1_4 mo0_4
 refine ae1 (up_n (up_m rfl (u8 rfl s1_3))) ?_; clear s0_3 s1_3; intro e_6 s1_6
 refine then_n <| aw_seq <| at_ <| ar (ro_move s1_6) rfl <| ar (ro_len_str up_h rfl qun9) rfl <| ar (ro_assign up_h) rfl <| ar (ro_assign ev_c) rfl <| ae2 (up_m rfl up_h) up_h ?_; clear s1_6; intro e_7 s4_7 s5_7
 refine then_n <| aw_ret <| muQ_eq (.inr rfl) [1, 2, 3] ml_5 mo0_5 (by decide) rfl (resM2 (by kernel_rfl) (resV_tmp s4_7) (resV_tmp s5_7)) (emb_ob mo1_5 ?_ (.gone (emb_ob mo3_5 ?_ .nil))) ?_
 all_goals (first | rfl | (simp; done) | (simp_all; done) | omega)
set_option maxRecDepth 100000 in
set_option maxHeartbeats 4000000 in
theorem string_ok (l : List UInt8) (h0 : 0 < l.length) (hl : l.length ≤ 1000000000) : FnMu Tryz.prog [] 53 [.ptr 1 0] [.box 121 [.ptr 1 0, .own 2], .row 5 1 (l.map bE)] (.v (.string (bs l))) [.box 121 [.ptr 1 0, .own 2], .gone] := by
 refine fnMu_of (fn := Tryz.f53) [] 14 (by kernel_rfl) rfl (by kernel_rfl) (Nat.le_of_ble_eq_true rfl) ?_
 intro e_0 m_0 hA hm_0
 have s0_0 : evA e_0 (.tmp 0) = _ := hA 0 _ rfl
 have ml_0 : m_0.length = 3 := by rw [hm_0]; rfl
 have mo0_0 := m_in0 hm_0
 have mo1_0 := m_in1 hm_0
 have mo2_0 := m_in2 hm_0
 clear hA hm_0
 refine aw_seq <| at_ <| ar (ro_assign ev_c) rfl <| ae1 (up_m rfl s0_0) ?_; clear s0_0; intro e_1 s0_1
 refine then_n <| aw_seq <| aw_draw 10 (by kernel_rfl) (by kernel_rfl) (by kernel_rfl) (by kernel_rfl) ?_
 refine dr (ro_move s0_1) rfl <| dr (ro_nilP up_h) rfl <| dr (ro_fld_ptr z20_fl121_1 rfl up_h) rfl <| dr (ro_eq (ro_ld_ptr z20_ty119 rfl mo1_0 up_h (nle rfl)) (by simp only [pS, Value.cells, Nat.reduceAdd] <;> rfl)) rfl ?_
 refine dr (ro_usd up_h mo2_0 (by simpa using h0)) rfl ?_
 refine dr (ro_move (up_m rfl (u4 rfl s0_1))) rfl <| dr (ro_nilP up_h) rfl <| dr (ro_fld_ptr z20_fl121_1 rfl up_h) rfl <| dr (ro_eq (ro_ld_ptr z20_ty119 rfl mo1_0 up_h (nle rfl)) (by simp only [pS, Value.cells, Nat.reduceAdd] <;> rfl)) rfl ?_
 refine dr (ro_eq (ro_len_own up_h mo2_0 rfl z20_sl119.1) (by simp only [lnS] <;> rfl)) rfl ?_
 refine ds_nil <| al_stm (st_ustr z20_up202 (by kernel_rfl) (up_m rfl (u4 rfl up_h)) up_h mo2_0 (by simp only [lnS] <;> rfl) (by simpa using h0) (by omega)) trivial rfl (fun m_2 hm_2 => ?_)
 have mo2_2 := m_set hm_2 mo2_0
 have mo0_2 := m_set_o hm_2 mo0_0 (by decide)
 have mo1_2 := m_set_o hm_2 mo1_0 (by decide)
 have ml_2 := m_set_l hm_2 ml_0
 clear hm_2 mo0_0 mo1_0 mo2_0
 clear mo2_2
 refine ar (ro_assign up_h) rfl <| ae1 up_h ?_; clear s0_1; intro e_3 s2_3
 refine then_n <| aw_ret <| muQ_eq (.inr rfl) [1, 2] ml_2 mo0_2 (by decide) rfl (resM1 (by kernel_rfl) (resV_tmp s2_3)) (emb_ob mo1_2 ?_ (.gone .nil)) ?_
 all_goals (first | rfl | (simp; done) | (simp_all; done) | omega)
end Go.Proofs.YtjhcfpdgldpicaaGreatDoor
namespace Go.Proofs.YtjhcfpdgldpicaaGreatDoor
open Go Go.RowKit Go.Proofs Go.Lib
theorem z4_hcf116 : ∀ args w, (callFunc 116 args).run Tryz.prog w = .ok (.enter 116 args) w := fun _ _ => by kernel_rfl
theorem z4_sl119 : SlIs Tryz.prog 119 5 1 1 (.int .u8 0) := ⟨by kernel_rfl, by kernel_rfl, by kernel_rfl⟩
theorem one_bs (x : UInt8) : (⟨#[x]⟩ : ByteArray) = bs [x] := rfl
def decI (n m : Int) (l : List UInt8) : Prop := (m = 0 ∧ l = decDigits n.natAbs) ∨ (m ≠ 0 ∧ decDigits m.natAbs ++ l = decDigits n.natAbs)
theorem decI_step {n m : Int} {l : List UInt8} (hm : m ≠ 0) (h : decI n m l) {x : UInt8} (hx : x = UInt8.ofNat (48 + (m.tmod 10).natAbs)) : decI n (m.tdiv 10) ([x] ++ l) := by
 have hd : (m.tdiv 10).natAbs = m.natAbs / 10 := by rw [Int.natAbs_tdiv]; rfl
 have hr : (m.tmod 10).natAbs = m.natAbs % 10 := by rw [Int.natAbs_tmod]; rfl
 subst hx
 rw [hr]
 rcases h with ⟨h0, _⟩ | ⟨_, h1⟩
 ·exact absurd h0 hm
 ·by_cases h2 : m.natAbs < 10
  ·left
   refine ⟨by omega, ?_⟩
   rw [← h1, dec_small h2, Nat.mod_eq_of_lt h2]
  ·right
   refine ⟨by omega, ?_⟩
   rw [← h1, dec_big h2, hd]; simp
theorem decI_len {n m : Int} {l : List UInt8} (hn : In64 n) (h : decI n m l) : l.length ≤ 25 := by
 have := itoa_length_le n (by unfold In64 at hn; omega) (by unfold In64 at hn; omega)
 have h2 : (decDigits n.natAbs).length ≤ (itoa n).length := by
  unfold itoa
  split
  ·simp
  ·rw [show n.toNat = n.natAbs by omega]; exact Nat.le_refl _
 rcases h with ⟨_, h1⟩ | ⟨_, h1⟩
 ·rw [h1]; omega
 ·have := congrArg List.length h1
  rw [List.length_append] at this
  omega
theorem tdm (m : Int) : (m.tmod 10).natAbs ≤ 9 ∧ (m.tdiv 10).natAbs = m.natAbs / 10 := by
 have hd : (m.tdiv 10).natAbs = m.natAbs / 10 := by rw [Int.natAbs_tdiv]; rfl
 have hr : (m.tmod 10).natAbs = m.natAbs % 10 := by rw [Int.natAbs_tmod]; rfl
 omega
theorem sizeW_abs (m : Int) : sizeW m = m.natAbs := by unfold sizeW; omega
set_option maxRecDepth 100000 in
set_option maxHeartbeats 4000000 in
theorem decimal_ok (n : Int) (hn : In64 n) : FnOk Tryz.prog 54 [.v (.int .i64 n)] (fun q => q = .v (.string (bs (itoa n)))) := by
 have hn' := hn
 unfold In64 at hn'
 refine fnOk_of (fn := Tryz.f54) 27 (by kernel_rfl) rfl (by kernel_rfl) (Nat.le_of_ble_eq_true rfl) ?_
 intro e_0 m_0 hA hm_0
 have s0_0 : evA e_0 (.tmp 0) = _ := hA 0 _ rfl
 have ml_0 : m_0.length = 0 := by rw [hm_0]; rfl
 clear hA hm_0
 refine aw_seq <| at_ <| ar (ro_assign ev_c) rfl <| ae1 (up_m rfl s0_0) ?_; clear s0_0; intro e_1 s0_1
 refine then_n <| aw_seq <| aw_seq <| at_ <| ar (ro_move s0_1) rfl <| ar (ro_eql up_h ev_c) rfl ?_
 refine ae2 (u2 rfl s0_1) up_h ?_; clear s0_1; intro e_2 s0_2 s7_2
 refine then_n <| aw_case s7_2 (fun hq_3 => ?_) (fun hq_3 => ?_)
 ·(first | replace hq_3 := bnt hq_3 | replace hq_3 := bnf hq_3 | replace hq_3 := bt hq_3 | replace hq_3 := bf hq_3 | replace hq_3 := bt' hq_3 | replace hq_3 := bf' hq_3 | skip)
  first
  | (cases hq_3; done) | (exfalso; omega)
  | (
   refine aw_seq <| at_ <| ar (ro_assign ev_c) rfl <| ae1 up_h ?_; clear s0_2 s7_2; intro e_4 s2_4
   refine then_n <| aw_ret <| then_r <| ret1 (.inr rfl) (by kernel_rfl) (resV_tmp s2_4) (.ro _ rfl) ?_
   clear s2_4 ml_0
   (have h0 : n = 0 := (by omega); rw [h0]; unfold itoa; rw [if_neg (by decide), show (0 : Int).toNat = 0 from rfl, dec_small (by decide)]; rfl))
 ·(first | replace hq_3 := bnt hq_3 | replace hq_3 := bnf hq_3 | replace hq_3 := bt hq_3 | replace hq_3 := bf hq_3 | replace hq_3 := bt' hq_3 | replace hq_3 := bf' hq_3 | skip)
  first
  | (cases hq_3; done) | (exfalso; omega)
  | (
   refine aw_skip <| then_n <| aw_seq <| at_ <| ar (ro_assign ev_c) rfl <| ar (ro_assign ev_c) rfl <| ae3 (u2 rfl s0_2) (up_m rfl up_h) up_h ?_; clear s0_2 s7_2; intro e_5 s0_5 s3_5 s4_5
   refine then_n <| aw_seq <| aw_seq <| at_ <| ar (ro_move s0_5) rfl <| ar (ro_lss up_h ev_c) rfl <| ae4 (u2 rfl s0_5) (u2 rfl s3_5) (u2 rfl s4_5) up_h ?_; clear s0_5 s3_5 s4_5; intro e_6 s0_6 s3_6 s4_6 s9_6
   refine then_n <| aw_case s9_6 (fun hq_7 => ?_) (fun hq_7 => ?_)
   ·(first | replace hq_7 := bnt hq_7 | replace hq_7 := bnf hq_7 | replace hq_7 := bt hq_7 | replace hq_7 := bf hq_7 | replace hq_7 := bt' hq_7 | replace hq_7 := bf' hq_7 | skip)
    first
    | (cases hq_7; done) | (exfalso; omega)
    | (
     refine at_ <| ar (ro_assign ev_c) rfl <| ae3 (up_m rfl s0_6) (up_m rfl s3_6) up_h ?_; clear s0_6 s3_6 s4_6 s9_6; intro e_8 s0_8 s3_8 s4_8
     refine then_n <| aw_seq <| aw_block <| aw_loop (S := (Int × List UInt8)) (fun s e mem => match s with | ⟨m, l⟩ => (evA e (.tmp 0) = .v (.int .i64 m)) ∧ (evA e (.tmp 3) = .v (.string (bs l))) ∧ (evA e (.tmp 4) = evA e_8 (.tmp 4)) ∧ (mem.length = 0) ∧ ((m.natAbs ≤ n.natAbs ∧ decI n m l))) (fun s => match s with | ⟨m, l⟩ => m.natAbs) ⟨_, []⟩ ⟨s0_8, s3_8, rfl, ml_0, ?_⟩ ?_
     ·(exact ⟨by omega, .inr ⟨by omega, by simp⟩⟩)
     ·rintro ⟨m, l⟩ e_9 m_9 ⟨s0_9, s3_9, k4_9, ml_9, hinv⟩
      have s4_9 := k4_9.trans s4_8
      (obtain ⟨p1, p2⟩ := hinv; obtain ⟨t1, t2⟩ := tdm m; have hsz := sizeW_abs (m.tmod 10); have hll := decI_len hn p2; have hbl := bs_size l)
      refine aw_seq <| aw_seq <| at_ <| ar (ro_move s0_9) rfl <| ar (ro_neq up_h ev_c) rfl <| ae4 (u2 rfl s0_9) (u2 rfl s3_9) (u2 rfl s4_9) up_h ?_; clear s0_9 s3_9 s4_9; intro e_10 s0_10 s3_10 s4_10 s11_10
      refine then_n <| aw_case s11_10 (fun hq_11 => ?_) (fun hq_11 => ?_)
      ·(first | replace hq_11 := bnt hq_11 | replace hq_11 := bnf hq_11 | replace hq_11 := bt hq_11 | replace hq_11 := bf hq_11 | replace hq_11 := bt' hq_11 | replace hq_11 := bf' hq_11 | skip)
       first
       | (cases hq_11; done) | (exfalso; omega)
       | (
        refine aw_skip <| then_n <| aw_block <| aw_seq <| at_ <| ar (ro_move s0_10) rfl <| ar (ro_rem up_h ev_c (by first | decide | omega)) rfl ?_
        refine ar (ro_assign up_h) rfl <| ae4 (up_m rfl (u2 rfl s0_10)) (up_m rfl (u2 rfl s3_10)) (up_m rfl (u2 rfl s4_10)) up_h ?_; clear s0_10 s11_10 s3_10 s4_10; intro e_12 s0_12 s3_12 s4_12 s5_12
        refine then_n <| aw_seq <| at_ <| ar (ro_move s5_12) rfl <| ar (ro_call (evL_cons up_h evL_nil) rfl (bSize_ok _ (by omega)) z4_hcf116) rfl ?_
        first | (refine ar (ro_add' ev_c up_h ?_) rfl ?_; · (first | ((first | unfold In64 | unfold InU64 | unfold InU8); omega) | (simp only [ByteArray.size_append, size_mk, List.length_cons, List.length_nil] <;> omega) | omega)) | (refine ar (ro_add ev_c up_h) rfl ?_)
        first | (refine ar (ro_cvB up_h (by kernel_rfl) (by kernel_rfl) ?_) rfl ?_; · (first | ((first | unfold In64 | unfold InU64 | unfold InU8); omega) | (simp only [ByteArray.size_append, size_mk, List.length_cons, List.length_nil] <;> omega) | omega)) | (refine ar (ro_cv (k' := .u8) up_h (by kernel_rfl) (by kernel_rfl)) rfl ?_)
        refine ar (ro_lit z4_sl119 (evP_cons up_h evP_nil) rfl rfl rfl rfl) rfl <| ar (ro_b2s qus119 qun9 qu85 up_h (by unfold InU8; omega)) rfl ?_
        refine ar (ro_move (u2 rfl (u4 rfl s3_12))) rfl ?_
        (refine ar (ro_sadd (up_m rfl up_h) up_h ?_) rfl ?_; · (first | ((first | unfold In64 | unfold InU64 | unfold InU8); omega) | (simp only [ByteArray.size_append, size_mk, List.length_cons, List.length_nil] <;> omega) | omega))
        refine ar (ro_assign up_h) rfl <| ae3 (up_m rfl (u8 rfl s0_12)) up_h (up_m rfl (u8 rfl s4_12)) ?_; clear s0_12 s3_12 s4_12 s5_12; intro e_13 s0_13 s3_13 s4_13
        refine then_n <| at_ <| ar (ro_move s0_13) rfl ?_
        first | (refine ar (ro_quo' up_h ev_c (by first | decide | omega) ?_) rfl ?_; · (first | ((first | unfold In64 | unfold InU64 | unfold InU8); omega) | (simp only [ByteArray.size_append, size_mk, List.length_cons, List.length_nil] <;> omega) | omega)) | (refine ar (ro_quo up_h ev_c (by first | decide | omega)) rfl ?_)
        refine ar (ro_assign up_h) rfl <| ae3 up_h (up_m rfl (u2 rfl s3_13)) (up_m rfl (u2 rfl s4_13)) ?_; clear s0_13 s3_13 s4_13; intro e_14 s0_14 s3_14 s4_14
        refine block_n <| then_n <| ⟨⟨_, _⟩, ⟨s0_14, s3_14, (s4_14.trans s4_8.symm), ml_9, ?_⟩, ?_⟩
        ·(exact ⟨by omega, decI_step (by assumption) p2 (by congr 1; omega)⟩)
        ·((try dsimp only); omega))
      ·(first | replace hq_11 := bnt hq_11 | replace hq_11 := bnf hq_11 | replace hq_11 := bt hq_11 | replace hq_11 := bf hq_11 | replace hq_11 := bt' hq_11 | replace hq_11 := bf' hq_11 | skip)
       first
       | (cases hq_11; done) | (exfalso; omega)
       | (
        refine aw_exit <| then_x <| then_x <| block_hit <| then_n <| aw_seq <| at_ <| ar (ro_move s4_10) rfl <| ar (ro_move (up_m rfl s3_10)) rfl ?_
        (refine ar (ro_sadd (up_m rfl up_h) up_h ?_) rfl ?_; · (first | ((first | unfold In64 | unfold InU64 | unfold InU8); omega) | (simp only [ByteArray.size_append, size_mk, List.length_cons, List.length_nil] <;> omega) | omega))
        refine ar (ro_assign up_h) rfl <| ae1 up_h ?_; clear s0_10 s11_10 s3_10 s4_10; intro e_15 s2_15
        refine then_n <| aw_ret <| ret1 (.inr rfl) (by kernel_rfl) (resV_tmp s2_15) (.ro _ rfl) ?_
        clear s2_15 ml_9
        (rcases p2 with ⟨_, q2⟩ | ⟨q1, _⟩ <;> first | (exfalso; omega) | (unfold itoa; first | rw [if_pos (by omega), q2] | rw [if_neg (by omega), q2, show n.toNat = n.natAbs by omega]); rfl)))
   ·(first | replace hq_7 := bnt hq_7 | replace hq_7 := bnf hq_7 | replace hq_7 := bt hq_7 | replace hq_7 := bf hq_7 | replace hq_7 := bt' hq_7 | replace hq_7 := bf' hq_7 | skip)
    first
    | (cases hq_7; done) | (exfalso; omega)
    | (
     refine aw_skip <| then_n <| aw_seq <| aw_block <| aw_loop (S := (Int × List UInt8)) (fun s e mem => match s with | ⟨m, l⟩ => (evA e (.tmp 0) = .v (.int .i64 m)) ∧ (evA e (.tmp 3) = .v (.string (bs l))) ∧ (evA e (.tmp 4) = evA e_6 (.tmp 4)) ∧ (mem.length = 0) ∧ ((m.natAbs ≤ n.natAbs ∧ decI n m l))) (fun s => match s with | ⟨m, l⟩ => m.natAbs) ⟨_, []⟩ ⟨s0_6, s3_6, rfl, ml_0, ?_⟩ ?_
     ·(exact ⟨by omega, .inr ⟨by omega, by simp⟩⟩)
     ·rintro ⟨m, l⟩ e_16 m_16 ⟨s0_16, s3_16, k4_16, ml_16, hinv⟩
      have s4_16 := k4_16.trans s4_6
      (obtain ⟨p1, p2⟩ := hinv; obtain ⟨t1, t2⟩ := tdm m; have hsz := sizeW_abs (m.tmod 10); have hll := decI_len hn p2; have hbl := bs_size l)
      refine aw_seq <| aw_seq <| at_ <| ar (ro_move s0_16) rfl <| ar (ro_neq up_h ev_c) rfl <| ae4 (u2 rfl s0_16) (u2 rfl s3_16) (u2 rfl s4_16) up_h ?_; clear s0_16 s3_16 s4_16; intro e_17 s0_17 s3_17 s4_17 s11_17
      refine then_n <| aw_case s11_17 (fun hq_18 => ?_) (fun hq_18 => ?_)
      ·(first | replace hq_18 := bnt hq_18 | replace hq_18 := bnf hq_18 | replace hq_18 := bt hq_18 | replace hq_18 := bf hq_18 | replace hq_18 := bt' hq_18 | replace hq_18 := bf' hq_18 | skip)
       first
       | (cases hq_18; done) | (exfalso; omega)
       | (
        refine aw_skip <| then_n <| aw_block <| aw_seq <| at_ <| ar (ro_move s0_17) rfl <| ar (ro_rem up_h ev_c (by first | decide | omega)) rfl ?_
        refine ar (ro_assign up_h) rfl <| ae4 (up_m rfl (u2 rfl s0_17)) (up_m rfl (u2 rfl s3_17)) (up_m rfl (u2 rfl s4_17)) up_h ?_; clear s0_17 s11_17 s3_17 s4_17; intro e_19 s0_19 s3_19 s4_19 s5_19
        refine then_n <| aw_seq <| at_ <| ar (ro_move s5_19) rfl <| ar (ro_call (evL_cons up_h evL_nil) rfl (bSize_ok _ (by omega)) z4_hcf116) rfl ?_
        first | (refine ar (ro_add' ev_c up_h ?_) rfl ?_; · (first | ((first | unfold In64 | unfold InU64 | unfold InU8); omega) | (simp only [ByteArray.size_append, size_mk, List.length_cons, List.length_nil] <;> omega) | omega)) | (refine ar (ro_add ev_c up_h) rfl ?_)
        first | (refine ar (ro_cvB up_h (by kernel_rfl) (by kernel_rfl) ?_) rfl ?_; · (first | ((first | unfold In64 | unfold InU64 | unfold InU8); omega) | (simp only [ByteArray.size_append, size_mk, List.length_cons, List.length_nil] <;> omega) | omega)) | (refine ar (ro_cv (k' := .u8) up_h (by kernel_rfl) (by kernel_rfl)) rfl ?_)
        refine ar (ro_lit z4_sl119 (evP_cons up_h evP_nil) rfl rfl rfl rfl) rfl <| ar (ro_b2s qus119 qun9 qu85 up_h (by unfold InU8; omega)) rfl ?_
        refine ar (ro_move (u2 rfl (u4 rfl s3_19))) rfl ?_
        (refine ar (ro_sadd (up_m rfl up_h) up_h ?_) rfl ?_; · (first | ((first | unfold In64 | unfold InU64 | unfold InU8); omega) | (simp only [ByteArray.size_append, size_mk, List.length_cons, List.length_nil] <;> omega) | omega))
        refine ar (ro_assign up_h) rfl <| ae3 (up_m rfl (u8 rfl s0_19)) up_h (up_m rfl (u8 rfl s4_19)) ?_; clear s0_19 s3_19 s4_19 s5_19; intro e_20 s0_20 s3_20 s4_20
        refine then_n <| at_ <| ar (ro_move s0_20) rfl ?_
        first | (refine ar (ro_quo' up_h ev_c (by first | decide | omega) ?_) rfl ?_; · (first | ((first | unfold In64 | unfold InU64 | unfold InU8); omega) | (simp only [ByteArray.size_append, size_mk, List.length_cons, List.length_nil] <;> omega) | omega)) | (refine ar (ro_quo up_h ev_c (by first | decide | omega)) rfl ?_)
        refine ar (ro_assign up_h) rfl <| ae3 up_h (up_m rfl (u2 rfl s3_20)) (up_m rfl (u2 rfl s4_20)) ?_; clear s0_20 s3_20 s4_20; intro e_21 s0_21 s3_21 s4_21
        refine block_n <| then_n <| ⟨⟨_, _⟩, ⟨s0_21, s3_21, (s4_21.trans s4_6.symm), ml_16, ?_⟩, ?_⟩
        ·(exact ⟨by omega, decI_step (by assumption) p2 (by congr 1; omega)⟩)
        ·((try dsimp only); omega))
      ·(first | replace hq_18 := bnt hq_18 | replace hq_18 := bnf hq_18 | replace hq_18 := bt hq_18 | replace hq_18 := bf hq_18 | replace hq_18 := bt' hq_18 | replace hq_18 := bf' hq_18 | skip)
       first
       | (cases hq_18; done) | (exfalso; omega)
       | (
        refine aw_exit <| then_x <| then_x <| block_hit <| then_n <| aw_seq <| at_ <| ar (ro_move s4_17) rfl <| ar (ro_move (up_m rfl s3_17)) rfl ?_
        (refine ar (ro_sadd (up_m rfl up_h) up_h ?_) rfl ?_; · (first | ((first | unfold In64 | unfold InU64 | unfold InU8); omega) | (simp only [ByteArray.size_append, size_mk, List.length_cons, List.length_nil] <;> omega) | omega))
        refine ar (ro_assign up_h) rfl <| ae1 up_h ?_; clear s0_17 s11_17 s3_17 s4_17; intro e_22 s2_22
        refine then_n <| aw_ret <| ret1 (.inr rfl) (by kernel_rfl) (resV_tmp s2_22) (.ro _ rfl) ?_
        clear s2_22 ml_16
        (rcases p2 with ⟨_, q2⟩ | ⟨q1, _⟩ <;> first | (exfalso; omega) | (unfold itoa; first | rw [if_pos (by omega), q2] | rw [if_neg (by omega), q2, show n.toNat = n.natAbs by omega]); rfl))))
theorem getD_some {l : List UInt8} {k : Nat} (h : k < l.length) : l[k]? = some (l.getD k default) := by
 rw [List.getElem?_eq_getElem h, List.getD_eq_getElem?_getD, List.getElem?_eq_getElem h]; rfl
theorem u8_eq {b : UInt8} {n : Nat} (h : b.toNat = n) (hn : n < 256) : b = UInt8.ofNat n := by
 apply UInt8.toNat_inj.1; rw [UInt8.toNat_ofNat']; omega
theorem numA_dec (l : List UInt8) : numA l = 1 ↔ 0 < l.length ∧ (l.getD 0 default).toNat = 45 := by
 unfold numA
 constructor
 ·intro h
  split at h
  ·rename_i hq
   have hl := (List.getElem?_eq_some_iff.1 hq).1
   rw [getD_some hl] at hq
   exact ⟨hl, by rw [Option.some.inj hq]; rfl⟩
  ·cases h
 ·rintro ⟨h1, h2⟩
  rw [if_pos]
  rw [getD_some h1, u8_eq h2 (by decide)]; rfl
theorem numA_two (l : List UInt8) : numA l = 0 ∨ numA l = 1 := by unfold numA; split <;> omega
theorem num_no2 {l : List UInt8} {D : Nat} (h : numK l D = true) : numA l < l.length ∧ l.length - numA l ≤ D ∧ ((l.getD (numA l) default).toNat = 48 → l.length ≤ 1) ∧ ∀ k : Nat, numA l ≤ k → k < l.length → 48 ≤ (l.getD k default).toNat ∧ (l.getD k default).toNat ≤ 57 := by
 obtain ⟨h1, h2, h3, h4, _⟩ := num_no h
 have hlt : numA l < l.length := by
  have := List.length_pos_iff.2 h1
  rw [List.length_drop] at this; omega
 refine ⟨hlt, h2, fun h5 => ?_, fun k h5 h6 => h4 k _ h5 (getD_some h6)⟩
 by_cases h6 : l.length ≤ 1
 ·exact h6
 ·exact absurd ⟨by rw [getD_some hlt, u8_eq h5 (by decide)]; rfl, by omega⟩ h3
def numI (l : List UInt8) (i n : Int) : Prop := 0 ≤ n ∧ decFrom 0 ((l.drop (numA l)).take (i - numA l).toNat) = some n.toNat
theorem numI_start (l : List UInt8) {i : Int} (hi : i = numA l) : numI l i 0 := by
 refine ⟨by omega, ?_⟩
 rw [show (i - numA l).toNat = 0 by omega]; rfl
theorem numI_step {l : List UInt8} {i n : Int} (h : numI l i n) (h0 : (numA l : Int) ≤ i) (h1 : i < l.length) (h2 : 48 ≤ (l.getD i.toNat default).toNat ∧ (l.getD i.toNat default).toNat ≤ 57) {m : Int} (hm : m = 10 * n + ((l.getD i.toNat default).toNat - 48)) : numI l (i + 1) m := by
 obtain ⟨p1, p2⟩ := h
 refine ⟨by omega, ?_⟩
 have hb : (l.drop (numA l))[(i - numA l).toNat]? = some (l.getD i.toNat default) := by
  rw [List.getElem?_drop, show numA l + (i - numA l).toNat = i.toNat by omega, getD_some (by omega)]
 have hd : digitVal (l.getD i.toNat default) = some ((l.getD i.toNat default).toNat - 48) := by
  unfold digitVal; rw [if_pos h2]
 have := decFrom_take _ _ _ _ _ _ p2 hb hd
 rw [show (i + 1 - (numA l : Int)).toNat = (i - numA l).toNat + 1 by omega, this]
 congr 1; omega
theorem numI_bd {l : List UInt8} {i n : Int} (h : numI l i n) (hl : l.length ≤ numA l + 17) : n < 100000000000000000 := by
 obtain ⟨p1, p2⟩ := h
 have h1 := decFrom_lt _ _ _ p2
 have h2 : ((l.drop (numA l)).take (i - numA l).toNat).length ≤ 17 := by
  have := List.length_take_le (i - numA l).toNat (l.drop (numA l))
  have h3 : (l.drop (numA l)).length = l.length - numA l := List.length_drop
  have := List.length_take_le' (i - numA l).toNat (l.drop (numA l))
  omega
 have h4 : 10 ^ ((l.drop (numA l)).take (i - numA l).toNat).length ≤ 10 ^ 17 := Nat.pow_le_pow_right (by decide) h2
 have e : (10 : Nat) ^ 17 = 100000000000000000 := by decide
 omega
theorem num_end {l : List UInt8} {D : Nat} {i n : Int} (hD : D ≤ 17) (h1 : numA l < l.length) (h2 : l.length - numA l ≤ D) (h3 : (l.getD (numA l) default).toNat = 48 → l.length ≤ 1) (hi : i = l.length) (h : numI l i n) :
 numK l D = true ∧ numN l = if numA l = 1 then -n else n := by
 obtain ⟨p1, p2⟩ := h
 have e : (l.drop (numA l)).take (i - numA l).toNat = l.drop (numA l) := List.take_of_length_le (by rw [List.length_drop]; omega)
 rw [e] at p2
 have := num_yes hD (fun h => by have := congrArg List.length h; rw [List.length_drop] at this; simp at this; omega) h2 (fun hh => by
  have := hh.1; rw [getD_some h1] at this
  have := h3 (by rw [Option.some.inj this]; rfl); omega) p2
 refine ⟨this.1, this.2.trans ?_⟩
 split <;> omega
def numR (l : List UInt8) (D : Nat) : Int := if numK l D then numN l else 0
theorem num_bad {l : List UInt8} {D : Nat} (h : ¬ numK l D = true) : AV.tuple [.v (.int .i64 0), .v (.bool false)] = .tuple [.v (.int .i64 (numR l D)), .v (.bool (numK l D))] := by
 unfold numR
 rw [if_neg h, Bool.eq_false_iff.2 h]
set_option maxRecDepth 100000 in
set_option maxHeartbeats 4000000 in
theorem number_ok (tx : ByteArray) (D : Nat) (hD : D ≤ 17) (hl : tx.data.toList.length ≤ 1000000) : FnOk Tryz.prog 112 [.v (.string tx), .v (.int .i64 D)] (fun q => q = .tuple [.v (.int .i64 (numR tx.data.toList D)), .v (.bool (numK tx.data.toList D))]) := by
 have hsz : tx.size = tx.data.toList.length := size_eq tx
 have ha1 : 0 < tx.data.toList.length → (tx.data.toList.getD (Int.toNat 0) default).toNat = 45 → numA tx.data.toList = 1 := fun h1 h2 => (numA_dec _).2 ⟨h1, h2⟩
 have ha3 : numA tx.data.toList = 1 → 0 < tx.data.toList.length ∧ (tx.data.toList.getD (Int.toNat 0) default).toNat = 45 := (numA_dec _).1
 have ha2 := numA_two tx.data.toList
 have hu : ∀ k : Nat, (tx.data.toList.getD k default).toNat < 256 := fun k => UInt8.toNat_lt _
 refine fnOk_of (fn := Tryz.f112) 70 (by kernel_rfl) rfl (by kernel_rfl) (Nat.le_of_ble_eq_true rfl) ?_
 intro e_0 m_0 hA hm_0
 have s0_0 : evA e_0 (.tmp 0) = _ := hA 0 _ rfl
 have s1_0 : evA e_0 (.tmp 1) = _ := hA 1 _ rfl
 have ml_0 : m_0.length = 0 := by rw [hm_0]; rfl
 clear hA hm_0
 refine aw_seq <| at_ <| ar (ro_assign ev_c) rfl <| ar (ro_assign ev_c) rfl <| ae2 (u2 rfl s0_0) (u2 rfl s1_0) ?_; clear s0_0 s1_0; intro e_1 s0_1 s1_1
 refine then_n <| aw_seq <| at_ <| ar (ro_assign ev_c) rfl <| ae3 (up_m rfl s0_1) (up_m rfl s1_1) up_h ?_; clear s0_1 s1_1; intro e_2 s0_2 s1_2 s6_2
 refine then_n <| aw_seq <| aw_seq <| aw_cut (fun e mem => (evA e (.tmp 16) = .v (.bool (decide (numA tx.data.toList = 1)))) ∧ (evA e (.tmp 0) = evA e_2 (.tmp 0)) ∧ (evA e (.tmp 1) = evA e_2 (.tmp 1)) ∧ (evA e (.tmp 6) = evA e_2 (.tmp 6)) ∧ m_0 = mem) ?_ ?_
 ·
  refine at_ <| ar (ro_move s0_2) rfl <| ar (ro_len_str up_h rfl qun9) rfl <| ar (ro_gtr up_h ev_c) rfl <| ar (ro_move up_h) rfl <| al_case up_h (fun hb_4 hq_4 => ?_) (fun hb_4 hq_4 => ?_)
  ·replace hq_4 := bt hq_4
   refine al_ro' (ro_move (u4 rfl s0_2)) ⟨_, rfl, hb_4⟩ rfl ?_
   refine al_ro' (ro_sindex up_h ev_c qun9 (by decide) (by refine idx_str ?_; first | omega | (simp <;> omega; done) | (refine Nat.lt_of_lt_of_le (m := 256) ?_ (by decide +kernel); omega))) ⟨_, rfl, (up_m rfl hb_4)⟩ rfl ?_
   refine al_ro' (ro_eql up_h ev_c) ⟨_, rfl, (u2 rfl hb_4)⟩ rfl ?_
   refine ar (ro_pickT (up_m rfl (u2 rfl hb_4)) up_h) rfl <| ae4 (u8 rfl s0_2) (u8 rfl s1_2) (u8 rfl s6_2) up_h ?_; intro e_5 s0_5 s1_5 s6_5 s16_5
   refine then_n ⟨(s16_5).trans (by (refine avb ?_; simp only [decide_eq_true_eq, Bool.false_eq_true, true_iff, false_iff]; first | omega | (intro hh; have := ha3 hh; omega) | exact ⟨fun h => ha1 (by omega) (by omega), fun h => by have := ha3 h; omega⟩)), (s0_5).trans (s0_2).symm, (s1_5).trans (s1_2).symm, (s6_5).trans (s6_2).symm, rfl⟩
  replace hq_4 := bf hq_4
  refine al_skip' ⟨_, rfl, .inl hb_4⟩ rfl ?_
  refine al_skip' ⟨_, rfl, .inl (up_m rfl hb_4)⟩ rfl ?_
  refine al_skip' ⟨_, rfl, .inl (u2 rfl hb_4)⟩ rfl ?_
  refine ar (ro_pickF (up_m rfl (u2 rfl hb_4)) ev_c) rfl <| ae4 (u8 rfl s0_2) (u8 rfl s1_2) (u8 rfl s6_2) up_h ?_; intro e_6 s0_6 s1_6 s6_6 s16_6
  refine then_n ⟨(s16_6).trans (by (refine avb ?_; simp only [decide_eq_true_eq, Bool.false_eq_true, true_iff, false_iff]; first | omega | (intro hh; have := ha3 hh; omega) | exact ⟨fun h => ha1 (by omega) (by omega), fun h => by have := ha3 h; omega⟩)), (s0_6).trans (s0_2).symm, (s1_6).trans (s1_2).symm, (s6_6).trans (s6_2).symm, rfl⟩
 ·rintro e_3 _ ⟨s16_3, k0_3, k1_3, k6_3, rfl⟩
  have s0_3 := k0_3.trans s0_2
  have s1_3 := k1_3.trans s1_2
  have s6_3 := k6_3.trans s6_2
  refine aw_case s16_3 (fun hq_7 => ?_) (fun hq_7 => ?_)
  ·replace hq_7 := bt hq_7
   (have hA : numA tx.data.toList = 1 := (by assumption); have hg : (tx.data.toList.getD (numA tx.data.toList) default).toNat = (tx.data.toList.getD (Int.toNat 1) default).toNat := (by rw [hA]; rfl))
   refine at_ <| ar (ro_assign ev_c) rfl <| ae3 (up_m rfl s0_3) (up_m rfl s1_3) up_h ?_; clear s0_3 s16_3 s1_3 s6_3; intro e_8 s0_8 s1_8 s6_8
   refine then_n <| aw_seq <| aw_seq <| aw_cut (fun e mem => (evA e (.tmp 39) = .v (.bool (decide (tx.data.toList.length = numA tx.data.toList ∨ D < tx.data.toList.length - numA tx.data.toList ∨ (tx.data.toList.getD (numA tx.data.toList) default).toNat = 48 ∧ 1 < tx.data.toList.length)))) ∧ (evA e (.tmp 0) = evA e_8 (.tmp 0)) ∧ (evA e (.tmp 6) = evA e_8 (.tmp 6)) ∧ m_0 = mem) ?_ ?_
   ·
    refine at_ <| ar (ro_move s0_8) rfl <| ar (ro_len_str up_h rfl qun9) rfl <| ar (ro_move (u2 rfl s6_8)) rfl <| ar (ro_eql (up_m rfl up_h) up_h) rfl ?_
    refine ar (ro_move up_h) rfl <| al_case up_h (fun hb_10 hq_10 => ?_) (fun hb_10 hq_10 => ?_)
    ·replace hq_10 := bt hq_10
     refine al_skip' ⟨_, rfl, .inl hb_10⟩ rfl ?_
     refine al_skip' ⟨_, rfl, .inl (up_m rfl hb_10)⟩ rfl ?_
     refine al_skip' ⟨_, rfl, .inl (u2 rfl hb_10)⟩ rfl ?_
     refine al_skip' ⟨_, rfl, .inl (up_m rfl (u2 rfl hb_10))⟩ rfl ?_
     refine al_skip' ⟨_, rfl, .inl (u4 rfl hb_10)⟩ rfl ?_
     refine al_skip' ⟨_, rfl, .inl (up_m rfl (u4 rfl hb_10))⟩ rfl ?_
     refine ar (ro_pickT (u2 rfl (u4 rfl hb_10)) ev_c) rfl <| ar (ro_move up_h) rfl <| al_skip' ⟨_, rfl, .inl up_h⟩ rfl ?_
     refine al_skip' ⟨_, rfl, .inl (up_m rfl up_h)⟩ rfl ?_
     refine al_skip' ⟨_, rfl, .inl (u2 rfl up_h)⟩ rfl ?_
     refine al_skip' ⟨_, rfl, .inl (up_m rfl (u2 rfl up_h))⟩ rfl ?_
     refine al_skip' ⟨_, rfl, .inl (u4 rfl up_h)⟩ rfl ?_
     refine al_skip' ⟨_, rfl, .inr up_h⟩ rfl ?_
     refine al_skip' ⟨_, rfl, .inr (up_m rfl up_h)⟩ rfl ?_
     refine al_skip' ⟨_, rfl, .inr (u2 rfl up_h)⟩ rfl ?_
     refine al_skip' ⟨_, rfl, .inl (u8 rfl up_h)⟩ rfl ?_
     refine ar (ro_pickT (up_m rfl (u8 rfl up_h)) ev_c) rfl <| ae3 (up_m rfl (u2 rfl (u4 rfl (u16 rfl s0_8)))) (up_m rfl (u2 rfl (u4 rfl (u16 rfl s6_8)))) up_h ?_; intro e_11 s0_11 s6_11 s39_11
     refine then_n ⟨(s39_11).trans (by (refine avb ?_; simp only [decide_eq_true_eq, Bool.false_eq_true, true_iff, false_iff]; omega)), (s0_11).trans (s0_8).symm, (s6_11).trans (s6_8).symm, rfl⟩
    replace hq_10 := bf hq_10
    refine al_ro' (ro_move (up_m rfl (u4 rfl s0_8))) ⟨_, rfl, hb_10⟩ rfl ?_
    refine al_ro' (ro_len_str up_h rfl qun9) ⟨_, rfl, (up_m rfl hb_10)⟩ rfl ?_
    refine al_ro' (ro_move (up_m rfl (u2 rfl (u4 rfl s6_8)))) ⟨_, rfl, (u2 rfl hb_10)⟩ rfl ?_
    (refine al_ro' (ro_sub' (up_m rfl up_h) up_h ?_) ⟨_, rfl, (up_m rfl (u2 rfl hb_10))⟩ rfl ?_; · (first | ((first | unfold In64 | unfold InU64 | unfold InU8); omega) | (simp only [ByteArray.size_append, size_mk, List.length_cons, List.length_nil] <;> omega) | omega))
    refine al_ro' (ro_move (up_m rfl (u8 rfl s1_8))) ⟨_, rfl, (u4 rfl hb_10)⟩ rfl ?_
    refine al_ro' (ro_gtr (up_m rfl up_h) up_h) ⟨_, rfl, (up_m rfl (u4 rfl hb_10))⟩ rfl ?_
    refine ar (ro_pickF (u2 rfl (u4 rfl hb_10)) up_h) rfl <| ar (ro_move up_h) rfl <| al_case up_h (fun hb_12 hq_12 => ?_) (fun hb_12 hq_12 => ?_)
    ·replace hq_12 := bt hq_12
     refine al_skip' ⟨_, rfl, .inl hb_12⟩ rfl ?_
     refine al_skip' ⟨_, rfl, .inl (up_m rfl hb_12)⟩ rfl ?_
     refine al_skip' ⟨_, rfl, .inl (u2 rfl hb_12)⟩ rfl ?_
     refine al_skip' ⟨_, rfl, .inl (up_m rfl (u2 rfl hb_12))⟩ rfl ?_
     refine al_skip' ⟨_, rfl, .inl (u4 rfl hb_12)⟩ rfl ?_
     refine al_skip' ⟨_, rfl, .inr up_h⟩ rfl ?_
     refine al_skip' ⟨_, rfl, .inr (up_m rfl up_h)⟩ rfl ?_
     refine al_skip' ⟨_, rfl, .inr (u2 rfl up_h)⟩ rfl ?_
     refine al_skip' ⟨_, rfl, .inl (u8 rfl hb_12)⟩ rfl ?_
     refine ar (ro_pickT (up_m rfl (u8 rfl hb_12)) ev_c) rfl <| ae3 (up_m rfl (u2 rfl (u4 rfl (u16 rfl s0_8)))) (up_m rfl (u2 rfl (u4 rfl (u16 rfl s6_8)))) up_h ?_; intro e_13 s0_13 s6_13 s39_13
     refine then_n ⟨(s39_13).trans (by (refine avb ?_; simp only [decide_eq_true_eq, Bool.false_eq_true, true_iff, false_iff]; omega)), (s0_13).trans (s0_8).symm, (s6_13).trans (s6_8).symm, rfl⟩
    replace hq_12 := bf hq_12
    refine al_ro' (ro_move (up_m rfl (u4 rfl (u8 rfl s0_8)))) ⟨_, rfl, hb_12⟩ rfl ?_
    refine al_ro' (ro_move (u2 rfl (u4 rfl (u8 rfl s6_8)))) ⟨_, rfl, (up_m rfl hb_12)⟩ rfl ?_
    refine al_ro' (ro_sindex (up_m rfl up_h) up_h qun9 (by decide) (by refine idx_str ?_; first | omega | (simp <;> omega; done) | (refine Nat.lt_of_lt_of_le (m := 256) ?_ (by decide +kernel); omega))) ⟨_, rfl, (u2 rfl hb_12)⟩ rfl ?_
    refine al_ro' (ro_eql up_h ev_c) ⟨_, rfl, (up_m rfl (u2 rfl hb_12))⟩ rfl ?_
    refine al_ro' (ro_move up_h) ⟨_, rfl, (u4 rfl hb_12)⟩ rfl ?_
    refine al_case up_h (fun hb_14 hq_14 => ?_) (fun hb_14 hq_14 => ?_)
    ·replace hq_14 := bt hq_14
     refine al_ro' (ro_move (u2 rfl (u16 rfl s0_8))) ⟨_, rfl, hb_14⟩ rfl ?_
     refine al_ro' (ro_len_str up_h rfl qun9) ⟨_, rfl, (up_m rfl hb_14)⟩ rfl ?_
     refine al_ro' (ro_gtr up_h ev_c) ⟨_, rfl, (u2 rfl hb_14)⟩ rfl ?_
     refine al_ro' (ro_pickT (up_m rfl (u2 rfl hb_14)) up_h) ⟨_, rfl, (u8 rfl hb_12)⟩ rfl ?_
     refine ar (ro_pickF (up_m rfl (u8 rfl hb_12)) up_h) rfl <| ae3 (up_m rfl (u2 rfl (u4 rfl (u16 rfl s0_8)))) (up_m rfl (u2 rfl (u4 rfl (u16 rfl s6_8)))) up_h ?_; intro e_15 s0_15 s6_15 s39_15
     refine then_n ⟨(s39_15).trans (by (refine avb ?_; simp only [decide_eq_true_eq, Bool.false_eq_true, true_iff, false_iff]; omega)), (s0_15).trans (s0_8).symm, (s6_15).trans (s6_8).symm, rfl⟩
    replace hq_14 := bf hq_14
    refine al_skip' ⟨_, rfl, .inl hb_14⟩ rfl ?_
    refine al_skip' ⟨_, rfl, .inl (up_m rfl hb_14)⟩ rfl ?_
    refine al_skip' ⟨_, rfl, .inl (u2 rfl hb_14)⟩ rfl ?_
    refine al_ro' (ro_pickF (up_m rfl (u2 rfl hb_14)) ev_c) ⟨_, rfl, (u8 rfl hb_12)⟩ rfl ?_
    refine ar (ro_pickF (up_m rfl (u8 rfl hb_12)) up_h) rfl <| ae3 (up_m rfl (u2 rfl (u4 rfl (u16 rfl s0_8)))) (up_m rfl (u2 rfl (u4 rfl (u16 rfl s6_8)))) up_h ?_; intro e_16 s0_16 s6_16 s39_16
    refine then_n ⟨(s39_16).trans (by (refine avb ?_; simp only [decide_eq_true_eq, Bool.false_eq_true, true_iff, false_iff]; omega)), (s0_16).trans (s0_8).symm, (s6_16).trans (s6_8).symm, rfl⟩
   ·rintro e_9 _ ⟨s39_9, k0_9, k6_9, rfl⟩
    have s0_9 := k0_9.trans s0_8
    have s6_9 := k6_9.trans s6_8
    refine aw_case s39_9 (fun hq_17 => ?_) (fun hq_17 => ?_)
    ·replace hq_17 := bt hq_17
     refine aw_seq <| at_ <| ar (ro_assign ev_c) rfl <| ar (ro_assign ev_c) rfl <| ae2 (up_m rfl up_h) up_h ?_; clear s0_9 s39_9 s6_9; intro e_18 s4_18 s5_18
     refine then_n <| aw_ret <| then_r <| ret2 (.inr rfl) (by kernel_rfl) (resV_tmp s4_18) (resV_tmp s5_18) (.ro _ rfl) (.ro _ rfl) ?_
     clear s4_18 s5_18 ml_0
     (first | (refine num_bad fun hk => ?_; obtain ⟨n1, n2, n3, n4⟩ := num_no2 hk; first | omega | (have hz := n4 i.toNat (by omega) (by omega); omega)) | (have he := num_end (l := tx.data.toList) (D := D) (i := i) (n := n) hD (by omega) (by omega) (by omega) (by omega) p3; unfold numR; rw [he.1, if_pos rfl, he.2]; first | (rw [if_pos hA]; done) | (rw [if_neg (by omega)]; done)))
    replace hq_17 := bf hq_17
    refine aw_skip <| then_n <| aw_seq <| at_ <| ar (ro_assign ev_c) rfl <| ae3 (up_m rfl s0_9) (up_m rfl s6_9) up_h ?_; clear s0_9 s39_9 s6_9; intro e_19 s0_19 s6_19 s7_19
    refine then_n <| aw_seq <| aw_seq <| at_ <| ar (ro_move s6_19) rfl <| ar (ro_assign up_h) rfl <| ae4 (u2 rfl s0_19) (u2 rfl s6_19) (u2 rfl s7_19) up_h ?_; clear s0_19 s6_19 s7_19; intro e_20 s0_20 s6_20 s7_20 s8_20
    refine then_n <| aw_block <| aw_loop (S := (Int × Int)) (fun s e mem => match s with | ⟨i, n⟩ => (evA e (.tmp 8) = .v (.int .i64 i)) ∧ (evA e (.tmp 7) = .v (.int .i64 n)) ∧ (evA e (.tmp 0) = evA e_20 (.tmp 0)) ∧ (evA e (.tmp 6) = evA e_20 (.tmp 6)) ∧ (mem.length = 0) ∧ ((numA tx.data.toList ≤ i ∧ i ≤ tx.data.toList.length ∧ numI tx.data.toList i n))) (fun s => match s with | ⟨i, n⟩ => (tx.data.toList.length - i).toNat) ⟨_, _⟩ ⟨s8_20, s7_20, rfl, rfl, ml_0, ?_⟩ ?_
    ·(exact ⟨by omega, by omega, numI_start tx.data.toList (by omega)⟩)
    ·rintro ⟨i, n⟩ e_21 m_21 ⟨s8_21, s7_21, k0_21, k6_21, ml_21, hinv⟩
     have s0_21 := k0_21.trans s0_20
     have s6_21 := k6_21.trans s6_20
     (obtain ⟨p1, p2, p3⟩ := hinv; have hb := numI_bd p3 (by omega); have hn0 := p3.1; have hui := hu i.toNat)
     refine aw_seq <| aw_seq <| at_ <| ar (ro_move s8_21) rfl <| ar (ro_move (up_m rfl s0_21)) rfl <| ar (ro_len_str up_h rfl qun9) rfl <| ar (ro_lss (u2 rfl up_h) up_h) rfl <| ae5 (u4 rfl s0_21) (u4 rfl s6_21) (u4 rfl s7_21) (u4 rfl s8_21) up_h ?_; clear s0_21 s6_21 s7_21 s8_21; intro e_22 s0_22 s6_22 s7_22 s8_22 s44_22
     refine then_n <| aw_case s44_22 (fun hq_23 => ?_) (fun hq_23 => ?_)
     ·replace hq_23 := bt hq_23
      refine aw_skip <| then_n <| aw_seq <| aw_block <| aw_seq <| aw_seq <| at_ <| ar (ro_move s0_22) rfl <| ar (ro_move (up_m rfl s8_22)) rfl <| ar (ro_sindex (up_m rfl up_h) up_h qun9 (by omega) (by refine idx_str ?_; first | omega | (simp <;> omega; done) | (refine Nat.lt_of_lt_of_le (m := 256) ?_ (by decide +kernel); omega))) rfl ?_
      refine ar (ro_lss up_h ev_c) rfl <| ar (ro_move up_h) rfl <| al_case up_h (fun hb_24 hq_24 => ?_) (fun hb_24 hq_24 => ?_)
      ·replace hq_24 := bt hq_24
       refine al_skip' ⟨_, rfl, .inl hb_24⟩ rfl ?_
       refine al_skip' ⟨_, rfl, .inl (up_m rfl hb_24)⟩ rfl ?_
       refine al_skip' ⟨_, rfl, .inl (u2 rfl hb_24)⟩ rfl ?_
       refine al_skip' ⟨_, rfl, .inl (up_m rfl (u2 rfl hb_24))⟩ rfl ?_
       refine ar (ro_pickT (u4 rfl hb_24) ev_c) rfl <| ae5 (u2 rfl (u8 rfl s0_22)) (u2 rfl (u8 rfl s6_22)) (u2 rfl (u8 rfl s7_22)) (u2 rfl (u8 rfl s8_22)) up_h ?_; clear hb_24 s0_22 s44_22 s6_22 s7_22 s8_22; intro e_25 s0_25 s6_25 s7_25 s8_25 s56_25
       refine then_n <| aw_true s56_25 <| aw_seq <| at_ <| ar (ro_assign ev_c) rfl <| ar (ro_assign ev_c) rfl <| ae2 (up_m rfl up_h) up_h ?_; clear s0_25 s56_25 s6_25 s7_25 s8_25; intro e_27 s4_27 s5_27
       refine then_n <| aw_ret <| then_r <| block_r <| then_r <| then_r <| block_r <| then_r <| ret2 (.inr rfl) (by kernel_rfl) (resV_tmp s4_27) (resV_tmp s5_27) (.ro _ rfl) (.ro _ rfl) ?_
       clear s4_27 s5_27 ml_21
       (first | (refine num_bad fun hk => ?_; obtain ⟨n1, n2, n3, n4⟩ := num_no2 hk; first | omega | (have hz := n4 i.toNat (by omega) (by omega); omega)) | (have he := num_end (l := tx.data.toList) (D := D) (i := i) (n := n) hD (by omega) (by omega) (by omega) (by omega) p3; unfold numR; rw [he.1, if_pos rfl, he.2]; first | (rw [if_pos hA]; done) | (rw [if_neg (by omega)]; done)))
      replace hq_24 := bf hq_24
      refine al_ro' (ro_move (up_m rfl (u4 rfl s0_22))) ⟨_, rfl, hb_24⟩ rfl ?_
      refine al_ro' (ro_move (u2 rfl (u4 rfl s8_22))) ⟨_, rfl, (up_m rfl hb_24)⟩ rfl ?_
      refine al_ro' (ro_sindex (up_m rfl up_h) up_h qun9 (by omega) (by refine idx_str ?_; first | omega | (simp <;> omega; done) | (refine Nat.lt_of_lt_of_le (m := 256) ?_ (by decide +kernel); omega))) ⟨_, rfl, (u2 rfl hb_24)⟩ rfl ?_
      refine al_ro' (ro_gtr up_h ev_c) ⟨_, rfl, (up_m rfl (u2 rfl hb_24))⟩ rfl ?_
      refine ar (ro_pickF (u4 rfl hb_24) up_h) rfl <| ae5 (u2 rfl (u8 rfl s0_22)) (u2 rfl (u8 rfl s6_22)) (u2 rfl (u8 rfl s7_22)) (u2 rfl (u8 rfl s8_22)) up_h ?_; clear hb_24 s0_22 s44_22 s6_22 s7_22 s8_22; intro e_28 s0_28 s6_28 s7_28 s8_28 s56_28
      refine then_n <| aw_case s56_28 (fun hq_29 => ?_) (fun hq_29 => ?_)
      ·replace hq_29 := bt hq_29
       refine aw_seq <| at_ <| ar (ro_assign ev_c) rfl <| ar (ro_assign ev_c) rfl <| ae2 (up_m rfl up_h) up_h ?_; clear s0_28 s56_28 s6_28 s7_28 s8_28; intro e_30 s4_30 s5_30
       refine then_n <| aw_ret <| then_r <| block_r <| then_r <| then_r <| block_r <| then_r <| ret2 (.inr rfl) (by kernel_rfl) (resV_tmp s4_30) (resV_tmp s5_30) (.ro _ rfl) (.ro _ rfl) ?_
       clear s4_30 s5_30 ml_21
       (first | (refine num_bad fun hk => ?_; obtain ⟨n1, n2, n3, n4⟩ := num_no2 hk; first | omega | (have hz := n4 i.toNat (by omega) (by omega); omega)) | (have he := num_end (l := tx.data.toList) (D := D) (i := i) (n := n) hD (by omega) (by omega) (by omega) (by omega) p3; unfold numR; rw [he.1, if_pos rfl, he.2]; first | (rw [if_pos hA]; done) | (rw [if_neg (by omega)]; done)))
      replace hq_29 := bf hq_29
      refine aw_skip <| then_n <| at_ <| ar (ro_move s7_28) rfl ?_
      (refine ar (ro_mul' ev_c up_h ?_) rfl ?_; · (first | ((first | unfold In64 | unfold InU64 | unfold InU8); omega) | (simp only [ByteArray.size_append, size_mk, List.length_cons, List.length_nil] <;> omega) | omega))
      refine ar (ro_move (u2 rfl s0_28)) rfl <| ar (ro_move (up_m rfl (u2 rfl s8_28))) rfl <| ar (ro_sindex (up_m rfl up_h) up_h qun9 (by omega) (by refine idx_str ?_; first | omega | (simp <;> omega; done) | (refine Nat.lt_of_lt_of_le (m := 256) ?_ (by decide +kernel); omega))) rfl ?_
      (refine ar (ro_subB up_h ev_c ?_) rfl ?_; · (first | ((first | unfold In64 | unfold InU64 | unfold InU8); omega) | (simp only [ByteArray.size_append, size_mk, List.length_cons, List.length_nil] <;> omega) | omega))
      (refine ar (ro_cvI up_h (by kernel_rfl) (by kernel_rfl) ?_) rfl ?_; · (first | ((first | unfold In64 | unfold InU64 | unfold InU8); omega) | (simp only [ByteArray.size_append, size_mk, List.length_cons, List.length_nil] <;> omega) | omega))
      (refine ar (ro_add' (up_m rfl (u4 rfl up_h)) up_h ?_) rfl ?_; · (first | ((first | unfold In64 | unfold InU64 | unfold InU8); omega) | (simp only [ByteArray.size_append, size_mk, List.length_cons, List.length_nil] <;> omega) | omega))
      refine ar (ro_assign up_h) rfl <| ae4 (up_m rfl (u8 rfl s0_28)) (up_m rfl (u8 rfl s6_28)) up_h (up_m rfl (u8 rfl s8_28)) ?_; clear s0_28 s56_28 s6_28 s7_28 s8_28; intro e_31 s0_31 s6_31 s7_31 s8_31
      refine block_n <| then_n <| at_ <| ar (ro_move s8_31) rfl ?_
      (refine ar (ro_add' up_h ev_c ?_) rfl ?_; · (first | ((first | unfold In64 | unfold InU64 | unfold InU8); omega) | (simp only [ByteArray.size_append, size_mk, List.length_cons, List.length_nil] <;> omega) | omega))
      refine ar (ro_assign up_h) rfl <| ae4 (up_m rfl (u2 rfl s0_31)) (up_m rfl (u2 rfl s6_31)) (up_m rfl (u2 rfl s7_31)) up_h ?_; clear s0_31 s6_31 s7_31 s8_31; intro e_32 s0_32 s6_32 s7_32 s8_32
      refine then_n <| ⟨⟨_, _⟩, ⟨s8_32, s7_32, (s0_32.trans s0_20.symm), (s6_32.trans s6_20.symm), ml_21, ?_⟩, ?_⟩
      ·(exact ⟨by omega, by omega, numI_step p3 p1 (by omega) (by omega) (by omega)⟩)
      ·((try dsimp only); omega)
     replace hq_23 := bf hq_23
     refine aw_exit <| then_x <| then_x <| block_hit <| then_n <| aw_seq <| aw_seq <| at_ <| ar (ro_move s6_22) rfl <| ar (ro_eql up_h ev_c) rfl ?_
     refine ae2 (u2 rfl s7_22) up_h ?_; clear s0_22 s44_22 s6_22 s7_22 s8_22; intro e_33 s7_33 s66_33
     refine then_n <| aw_case s66_33 (fun hq_34 => ?_) (fun hq_34 => ?_)
     ·replace hq_34 := bt hq_34
      refine at_ <| ar (ro_move s7_33) rfl ?_
      (refine ar (ro_neg' up_h ?_) rfl ?_; · (first | ((first | unfold In64 | unfold InU64 | unfold InU8); omega) | (simp only [ByteArray.size_append, size_mk, List.length_cons, List.length_nil] <;> omega) | omega))
      refine ar (ro_assign up_h) rfl <| ae1 up_h ?_; clear s66_33 s7_33; intro e_35 s7_35
      refine then_n <| aw_seq <| at_ <| ar (ro_move s7_35) rfl <| ar (ro_assign up_h) rfl <| ar (ro_assign ev_c) rfl <| ae2 (up_m rfl up_h) up_h ?_; clear s7_35; intro e_36 s4_36 s5_36
      refine then_n <| aw_ret <| ret2 (.inr rfl) (by kernel_rfl) (resV_tmp s4_36) (resV_tmp s5_36) (.ro _ rfl) (.ro _ rfl) ?_
      clear s4_36 s5_36 ml_21
      (first | (refine num_bad fun hk => ?_; obtain ⟨n1, n2, n3, n4⟩ := num_no2 hk; first | omega | (have hz := n4 i.toNat (by omega) (by omega); omega)) | (have he := num_end (l := tx.data.toList) (D := D) (i := i) (n := n) hD (by omega) (by omega) (by omega) (by omega) p3; unfold numR; rw [he.1, if_pos rfl, he.2]; first | (rw [if_pos hA]; done) | (rw [if_neg (by omega)]; done)))
     ·replace hq_34 := bf hq_34; exfalso; omega
  replace hq_7 := bf hq_7
  (have hA : numA tx.data.toList = 0 := (by omega); have hg : (tx.data.toList.getD (numA tx.data.toList) default).toNat = (tx.data.toList.getD (Int.toNat 0) default).toNat := (by rw [hA]; rfl))
  refine aw_skip <| then_n <| aw_seq <| aw_seq <| aw_cut (fun e mem => (evA e (.tmp 39) = .v (.bool (decide (tx.data.toList.length = numA tx.data.toList ∨ D < tx.data.toList.length - numA tx.data.toList ∨ (tx.data.toList.getD (numA tx.data.toList) default).toNat = 48 ∧ 1 < tx.data.toList.length)))) ∧ (evA e (.tmp 0) = evA e_3 (.tmp 0)) ∧ (evA e (.tmp 6) = evA e_3 (.tmp 6)) ∧ m_0 = mem) ?_ ?_
  ·
   refine at_ <| ar (ro_move s0_3) rfl <| ar (ro_len_str up_h rfl qun9) rfl <| ar (ro_move (u2 rfl s6_3)) rfl <| ar (ro_eql (up_m rfl up_h) up_h) rfl ?_
   refine ar (ro_move up_h) rfl <| al_case up_h (fun hb_39 hq_39 => ?_) (fun hb_39 hq_39 => ?_)
   ·replace hq_39 := bt hq_39
    refine al_skip' ⟨_, rfl, .inl hb_39⟩ rfl ?_
    refine al_skip' ⟨_, rfl, .inl (up_m rfl hb_39)⟩ rfl ?_
    refine al_skip' ⟨_, rfl, .inl (u2 rfl hb_39)⟩ rfl ?_
    refine al_skip' ⟨_, rfl, .inl (up_m rfl (u2 rfl hb_39))⟩ rfl ?_
    refine al_skip' ⟨_, rfl, .inl (u4 rfl hb_39)⟩ rfl ?_
    refine al_skip' ⟨_, rfl, .inl (up_m rfl (u4 rfl hb_39))⟩ rfl ?_
    refine ar (ro_pickT (u2 rfl (u4 rfl hb_39)) ev_c) rfl <| ar (ro_move up_h) rfl <| al_skip' ⟨_, rfl, .inl up_h⟩ rfl ?_
    refine al_skip' ⟨_, rfl, .inl (up_m rfl up_h)⟩ rfl ?_
    refine al_skip' ⟨_, rfl, .inl (u2 rfl up_h)⟩ rfl ?_
    refine al_skip' ⟨_, rfl, .inl (up_m rfl (u2 rfl up_h))⟩ rfl ?_
    refine al_skip' ⟨_, rfl, .inl (u4 rfl up_h)⟩ rfl ?_
    refine al_skip' ⟨_, rfl, .inr up_h⟩ rfl ?_
    refine al_skip' ⟨_, rfl, .inr (up_m rfl up_h)⟩ rfl ?_
    refine al_skip' ⟨_, rfl, .inr (u2 rfl up_h)⟩ rfl ?_
    refine al_skip' ⟨_, rfl, .inl (u8 rfl up_h)⟩ rfl ?_
    refine ar (ro_pickT (up_m rfl (u8 rfl up_h)) ev_c) rfl <| ae3 (up_m rfl (u2 rfl (u4 rfl (u16 rfl s0_3)))) (up_m rfl (u2 rfl (u4 rfl (u16 rfl s6_3)))) up_h ?_; intro e_40 s0_40 s6_40 s39_40
    refine then_n ⟨(s39_40).trans (by (refine avb ?_; simp only [decide_eq_true_eq, Bool.false_eq_true, true_iff, false_iff]; omega)), (s0_40).trans (s0_3).symm, (s6_40).trans (s6_3).symm, rfl⟩
   replace hq_39 := bf hq_39
   refine al_ro' (ro_move (up_m rfl (u4 rfl s0_3))) ⟨_, rfl, hb_39⟩ rfl ?_
   refine al_ro' (ro_len_str up_h rfl qun9) ⟨_, rfl, (up_m rfl hb_39)⟩ rfl ?_
   refine al_ro' (ro_move (up_m rfl (u2 rfl (u4 rfl s6_3)))) ⟨_, rfl, (u2 rfl hb_39)⟩ rfl ?_
   (refine al_ro' (ro_sub' (up_m rfl up_h) up_h ?_) ⟨_, rfl, (up_m rfl (u2 rfl hb_39))⟩ rfl ?_; · (first | ((first | unfold In64 | unfold InU64 | unfold InU8); omega) | (simp only [ByteArray.size_append, size_mk, List.length_cons, List.length_nil] <;> omega) | omega))
   refine al_ro' (ro_move (up_m rfl (u8 rfl s1_3))) ⟨_, rfl, (u4 rfl hb_39)⟩ rfl ?_
   refine al_ro' (ro_gtr (up_m rfl up_h) up_h) ⟨_, rfl, (up_m rfl (u4 rfl hb_39))⟩ rfl ?_
   refine ar (ro_pickF (u2 rfl (u4 rfl hb_39)) up_h) rfl <| ar (ro_move up_h) rfl <| al_case up_h (fun hb_41 hq_41 => ?_) (fun hb_41 hq_41 => ?_)
   ·replace hq_41 := bt hq_41
    refine al_skip' ⟨_, rfl, .inl hb_41⟩ rfl ?_
    refine al_skip' ⟨_, rfl, .inl (up_m rfl hb_41)⟩ rfl ?_
    refine al_skip' ⟨_, rfl, .inl (u2 rfl hb_41)⟩ rfl ?_
    refine al_skip' ⟨_, rfl, .inl (up_m rfl (u2 rfl hb_41))⟩ rfl ?_
    refine al_skip' ⟨_, rfl, .inl (u4 rfl hb_41)⟩ rfl ?_
    refine al_skip' ⟨_, rfl, .inr up_h⟩ rfl ?_
    refine al_skip' ⟨_, rfl, .inr (up_m rfl up_h)⟩ rfl ?_
    refine al_skip' ⟨_, rfl, .inr (u2 rfl up_h)⟩ rfl ?_
    refine al_skip' ⟨_, rfl, .inl (u8 rfl hb_41)⟩ rfl ?_
    refine ar (ro_pickT (up_m rfl (u8 rfl hb_41)) ev_c) rfl <| ae3 (up_m rfl (u2 rfl (u4 rfl (u16 rfl s0_3)))) (up_m rfl (u2 rfl (u4 rfl (u16 rfl s6_3)))) up_h ?_; intro e_42 s0_42 s6_42 s39_42
    refine then_n ⟨(s39_42).trans (by (refine avb ?_; simp only [decide_eq_true_eq, Bool.false_eq_true, true_iff, false_iff]; omega)), (s0_42).trans (s0_3).symm, (s6_42).trans (s6_3).symm, rfl⟩
   replace hq_41 := bf hq_41
   refine al_ro' (ro_move (up_m rfl (u4 rfl (u8 rfl s0_3)))) ⟨_, rfl, hb_41⟩ rfl ?_
   refine al_ro' (ro_move (u2 rfl (u4 rfl (u8 rfl s6_3)))) ⟨_, rfl, (up_m rfl hb_41)⟩ rfl ?_
   refine al_ro' (ro_sindex (up_m rfl up_h) up_h qun9 (by decide) (by refine idx_str ?_; first | omega | (simp <;> omega; done) | (refine Nat.lt_of_lt_of_le (m := 256) ?_ (by decide +kernel); omega))) ⟨_, rfl, (u2 rfl hb_41)⟩ rfl ?_
   refine al_ro' (ro_eql up_h ev_c) ⟨_, rfl, (up_m rfl (u2 rfl hb_41))⟩ rfl ?_
   refine al_ro' (ro_move up_h) ⟨_, rfl, (u4 rfl hb_41)⟩ rfl ?_
   refine al_case up_h (fun hb_43 hq_43 => ?_) (fun hb_43 hq_43 => ?_)
   ·replace hq_43 := bt hq_43
    refine al_ro' (ro_move (u2 rfl (u16 rfl s0_3))) ⟨_, rfl, hb_43⟩ rfl ?_
    refine al_ro' (ro_len_str up_h rfl qun9) ⟨_, rfl, (up_m rfl hb_43)⟩ rfl ?_
    refine al_ro' (ro_gtr up_h ev_c) ⟨_, rfl, (u2 rfl hb_43)⟩ rfl ?_
    refine al_ro' (ro_pickT (up_m rfl (u2 rfl hb_43)) up_h) ⟨_, rfl, (u8 rfl hb_41)⟩ rfl ?_
    refine ar (ro_pickF (up_m rfl (u8 rfl hb_41)) up_h) rfl <| ae3 (up_m rfl (u2 rfl (u4 rfl (u16 rfl s0_3)))) (up_m rfl (u2 rfl (u4 rfl (u16 rfl s6_3)))) up_h ?_; intro e_44 s0_44 s6_44 s39_44
    refine then_n ⟨(s39_44).trans (by (refine avb ?_; simp only [decide_eq_true_eq, Bool.false_eq_true, true_iff, false_iff]; omega)), (s0_44).trans (s0_3).symm, (s6_44).trans (s6_3).symm, rfl⟩
   replace hq_43 := bf hq_43
   refine al_skip' ⟨_, rfl, .inl hb_43⟩ rfl ?_
   refine al_skip' ⟨_, rfl, .inl (up_m rfl hb_43)⟩ rfl ?_
   refine al_skip' ⟨_, rfl, .inl (u2 rfl hb_43)⟩ rfl ?_
   refine al_ro' (ro_pickF (up_m rfl (u2 rfl hb_43)) ev_c) ⟨_, rfl, (u8 rfl hb_41)⟩ rfl ?_
   refine ar (ro_pickF (up_m rfl (u8 rfl hb_41)) up_h) rfl <| ae3 (up_m rfl (u2 rfl (u4 rfl (u16 rfl s0_3)))) (up_m rfl (u2 rfl (u4 rfl (u16 rfl s6_3)))) up_h ?_; intro e_45 s0_45 s6_45 s39_45
   refine then_n ⟨(s39_45).trans (by (refine avb ?_; simp only [decide_eq_true_eq, Bool.false_eq_true, true_iff, false_iff]; omega)), (s0_45).trans (s0_3).symm, (s6_45).trans (s6_3).symm, rfl⟩
  ·rintro e_38 _ ⟨s39_38, k0_38, k6_38, rfl⟩
   have s0_38 := k0_38.trans s0_3
   have s6_38 := k6_38.trans s6_3
   refine aw_case s39_38 (fun hq_46 => ?_) (fun hq_46 => ?_)
   ·replace hq_46 := bt hq_46
    refine aw_seq <| at_ <| ar (ro_assign ev_c) rfl <| ar (ro_assign ev_c) rfl <| ae2 (up_m rfl up_h) up_h ?_; clear s0_38 s39_38 s6_38; intro e_47 s4_47 s5_47
    refine then_n <| aw_ret <| then_r <| ret2 (.inr rfl) (by kernel_rfl) (resV_tmp s4_47) (resV_tmp s5_47) (.ro _ rfl) (.ro _ rfl) ?_
    clear s4_47 s5_47 ml_0
    (first | (refine num_bad fun hk => ?_; obtain ⟨n1, n2, n3, n4⟩ := num_no2 hk; first | omega | (have hz := n4 i.toNat (by omega) (by omega); omega)) | (have he := num_end (l := tx.data.toList) (D := D) (i := i) (n := n) hD (by omega) (by omega) (by omega) (by omega) p3; unfold numR; rw [he.1, if_pos rfl, he.2]; first | (rw [if_pos hA]; done) | (rw [if_neg (by omega)]; done)))
   replace hq_46 := bf hq_46
   refine aw_skip <| then_n <| aw_seq <| at_ <| ar (ro_assign ev_c) rfl <| ae3 (up_m rfl s0_38) (up_m rfl s6_38) up_h ?_; clear s0_38 s39_38 s6_38; intro e_48 s0_48 s6_48 s7_48
   refine then_n <| aw_seq <| aw_seq <| at_ <| ar (ro_move s6_48) rfl <| ar (ro_assign up_h) rfl <| ae4 (u2 rfl s0_48) (u2 rfl s6_48) (u2 rfl s7_48) up_h ?_; clear s0_48 s6_48 s7_48; intro e_49 s0_49 s6_49 s7_49 s8_49
   refine then_n <| aw_block <| aw_loop (S := (Int × Int)) (fun s e mem => match s with | ⟨i, n⟩ => (evA e (.tmp 8) = .v (.int .i64 i)) ∧ (evA e (.tmp 7) = .v (.int .i64 n)) ∧ (evA e (.tmp 0) = evA e_49 (.tmp 0)) ∧ (evA e (.tmp 6) = evA e_49 (.tmp 6)) ∧ (mem.length = 0) ∧ ((numA tx.data.toList ≤ i ∧ i ≤ tx.data.toList.length ∧ numI tx.data.toList i n))) (fun s => match s with | ⟨i, n⟩ => (tx.data.toList.length - i).toNat) ⟨_, _⟩ ⟨s8_49, s7_49, rfl, rfl, ml_0, ?_⟩ ?_
   ·(exact ⟨by omega, by omega, numI_start tx.data.toList (by omega)⟩)
   ·rintro ⟨i, n⟩ e_50 m_50 ⟨s8_50, s7_50, k0_50, k6_50, ml_50, hinv⟩
    have s0_50 := k0_50.trans s0_49
    have s6_50 := k6_50.trans s6_49
    (obtain ⟨p1, p2, p3⟩ := hinv; have hb := numI_bd p3 (by omega); have hn0 := p3.1; have hui := hu i.toNat)
    refine aw_seq <| aw_seq <| at_ <| ar (ro_move s8_50) rfl <| ar (ro_move (up_m rfl s0_50)) rfl <| ar (ro_len_str up_h rfl qun9) rfl <| ar (ro_lss (u2 rfl up_h) up_h) rfl <| ae5 (u4 rfl s0_50) (u4 rfl s6_50) (u4 rfl s7_50) (u4 rfl s8_50) up_h ?_; clear s0_50 s6_50 s7_50 s8_50; intro e_51 s0_51 s6_51 s7_51 s8_51 s44_51
    refine then_n <| aw_case s44_51 (fun hq_52 => ?_) (fun hq_52 => ?_)
    ·replace hq_52 := bt hq_52
     refine aw_skip <| then_n <| aw_seq <| aw_block <| aw_seq <| aw_seq <| at_ <| ar (ro_move s0_51) rfl <| ar (ro_move (up_m rfl s8_51)) rfl <| ar (ro_sindex (up_m rfl up_h) up_h qun9 (by omega) (by refine idx_str ?_; first | omega | (simp <;> omega; done) | (refine Nat.lt_of_lt_of_le (m := 256) ?_ (by decide +kernel); omega))) rfl ?_
     refine ar (ro_lss up_h ev_c) rfl <| ar (ro_move up_h) rfl <| al_case up_h (fun hb_53 hq_53 => ?_) (fun hb_53 hq_53 => ?_)
     ·replace hq_53 := bt hq_53
      refine al_skip' ⟨_, rfl, .inl hb_53⟩ rfl ?_
      refine al_skip' ⟨_, rfl, .inl (up_m rfl hb_53)⟩ rfl ?_
      refine al_skip' ⟨_, rfl, .inl (u2 rfl hb_53)⟩ rfl ?_
      refine al_skip' ⟨_, rfl, .inl (up_m rfl (u2 rfl hb_53))⟩ rfl ?_
      refine ar (ro_pickT (u4 rfl hb_53) ev_c) rfl <| ae5 (u2 rfl (u8 rfl s0_51)) (u2 rfl (u8 rfl s6_51)) (u2 rfl (u8 rfl s7_51)) (u2 rfl (u8 rfl s8_51)) up_h ?_; clear hb_53 s0_51 s44_51 s6_51 s7_51 s8_51; intro e_54 s0_54 s6_54 s7_54 s8_54 s56_54
      refine then_n <| aw_true s56_54 <| aw_seq <| at_ <| ar (ro_assign ev_c) rfl <| ar (ro_assign ev_c) rfl <| ae2 (up_m rfl up_h) up_h ?_; clear s0_54 s56_54 s6_54 s7_54 s8_54; intro e_56 s4_56 s5_56
      refine then_n <| aw_ret <| then_r <| block_r <| then_r <| then_r <| block_r <| then_r <| ret2 (.inr rfl) (by kernel_rfl) (resV_tmp s4_56) (resV_tmp s5_56) (.ro _ rfl) (.ro _ rfl) ?_
      clear s4_56 s5_56 ml_50
      (first | (refine num_bad fun hk => ?_; obtain ⟨n1, n2, n3, n4⟩ := num_no2 hk; first | omega | (have hz := n4 i.toNat (by omega) (by omega); omega)) | (have he := num_end (l := tx.data.toList) (D := D) (i := i) (n := n) hD (by omega) (by omega) (by omega) (by omega) p3; unfold numR; rw [he.1, if_pos rfl, he.2]; first | (rw [if_pos hA]; done) | (rw [if_neg (by omega)]; done)))
     replace hq_53 := bf hq_53
     refine al_ro' (ro_move (up_m rfl (u4 rfl s0_51))) ⟨_, rfl, hb_53⟩ rfl ?_
     refine al_ro' (ro_move (u2 rfl (u4 rfl s8_51))) ⟨_, rfl, (up_m rfl hb_53)⟩ rfl ?_
     refine al_ro' (ro_sindex (up_m rfl up_h) up_h qun9 (by omega) (by refine idx_str ?_; first | omega | (simp <;> omega; done) | (refine Nat.lt_of_lt_of_le (m := 256) ?_ (by decide +kernel); omega))) ⟨_, rfl, (u2 rfl hb_53)⟩ rfl ?_
     refine al_ro' (ro_gtr up_h ev_c) ⟨_, rfl, (up_m rfl (u2 rfl hb_53))⟩ rfl ?_
     refine ar (ro_pickF (u4 rfl hb_53) up_h) rfl <| ae5 (u2 rfl (u8 rfl s0_51)) (u2 rfl (u8 rfl s6_51)) (u2 rfl (u8 rfl s7_51)) (u2 rfl (u8 rfl s8_51)) up_h ?_; clear hb_53 s0_51 s44_51 s6_51 s7_51 s8_51; intro e_57 s0_57 s6_57 s7_57 s8_57 s56_57
     refine then_n <| aw_case s56_57 (fun hq_58 => ?_) (fun hq_58 => ?_)
     ·replace hq_58 := bt hq_58
      refine aw_seq <| at_ <| ar (ro_assign ev_c) rfl <| ar (ro_assign ev_c) rfl <| ae2 (up_m rfl up_h) up_h ?_; clear s0_57 s56_57 s6_57 s7_57 s8_57; intro e_59 s4_59 s5_59
      refine then_n <| aw_ret <| then_r <| block_r <| then_r <| then_r <| block_r <| then_r <| ret2 (.inr rfl) (by kernel_rfl) (resV_tmp s4_59) (resV_tmp s5_59) (.ro _ rfl) (.ro _ rfl) ?_
      clear s4_59 s5_59 ml_50
      (first | (refine num_bad fun hk => ?_; obtain ⟨n1, n2, n3, n4⟩ := num_no2 hk; first | omega | (have hz := n4 i.toNat (by omega) (by omega); omega)) | (have he := num_end (l := tx.data.toList) (D := D) (i := i) (n := n) hD (by omega) (by omega) (by omega) (by omega) p3; unfold numR; rw [he.1, if_pos rfl, he.2]; first | (rw [if_pos hA]; done) | (rw [if_neg (by omega)]; done)))
     replace hq_58 := bf hq_58
     refine aw_skip <| then_n <| at_ <| ar (ro_move s7_57) rfl ?_
     (refine ar (ro_mul' ev_c up_h ?_) rfl ?_; · (first | ((first | unfold In64 | unfold InU64 | unfold InU8); omega) | (simp only [ByteArray.size_append, size_mk, List.length_cons, List.length_nil] <;> omega) | omega))
     refine ar (ro_move (u2 rfl s0_57)) rfl <| ar (ro_move (up_m rfl (u2 rfl s8_57))) rfl <| ar (ro_sindex (up_m rfl up_h) up_h qun9 (by omega) (by refine idx_str ?_; first | omega | (simp <;> omega; done) | (refine Nat.lt_of_lt_of_le (m := 256) ?_ (by decide +kernel); omega))) rfl ?_
     (refine ar (ro_subB up_h ev_c ?_) rfl ?_; · (first | ((first | unfold In64 | unfold InU64 | unfold InU8); omega) | (simp only [ByteArray.size_append, size_mk, List.length_cons, List.length_nil] <;> omega) | omega))
     (refine ar (ro_cvI up_h (by kernel_rfl) (by kernel_rfl) ?_) rfl ?_; · (first | ((first | unfold In64 | unfold InU64 | unfold InU8); omega) | (simp only [ByteArray.size_append, size_mk, List.length_cons, List.length_nil] <;> omega) | omega))
     (refine ar (ro_add' (up_m rfl (u4 rfl up_h)) up_h ?_) rfl ?_; · (first | ((first | unfold In64 | unfold InU64 | unfold InU8); omega) | (simp only [ByteArray.size_append, size_mk, List.length_cons, List.length_nil] <;> omega) | omega))
     refine ar (ro_assign up_h) rfl <| ae4 (up_m rfl (u8 rfl s0_57)) (up_m rfl (u8 rfl s6_57)) up_h (up_m rfl (u8 rfl s8_57)) ?_; clear s0_57 s56_57 s6_57 s7_57 s8_57; intro e_60 s0_60 s6_60 s7_60 s8_60
     refine block_n <| then_n <| at_ <| ar (ro_move s8_60) rfl ?_
     (refine ar (ro_add' up_h ev_c ?_) rfl ?_; · (first | ((first | unfold In64 | unfold InU64 | unfold InU8); omega) | (simp only [ByteArray.size_append, size_mk, List.length_cons, List.length_nil] <;> omega) | omega))
     refine ar (ro_assign up_h) rfl <| ae4 (up_m rfl (u2 rfl s0_60)) (up_m rfl (u2 rfl s6_60)) (up_m rfl (u2 rfl s7_60)) up_h ?_; clear s0_60 s6_60 s7_60 s8_60; intro e_61 s0_61 s6_61 s7_61 s8_61
     refine then_n <| ⟨⟨_, _⟩, ⟨s8_61, s7_61, (s0_61.trans s0_49.symm), (s6_61.trans s6_49.symm), ml_50, ?_⟩, ?_⟩
     ·(exact ⟨by omega, by omega, numI_step p3 p1 (by omega) (by omega) (by omega)⟩)
     ·((try dsimp only); omega)
    replace hq_52 := bf hq_52
    refine aw_exit <| then_x <| then_x <| block_hit <| then_n <| aw_seq <| aw_seq <| at_ <| ar (ro_move s6_51) rfl <| ar (ro_eql up_h ev_c) rfl ?_
    refine ae2 (u2 rfl s7_51) up_h ?_; clear s0_51 s44_51 s6_51 s7_51 s8_51; intro e_62 s7_62 s66_62
    refine then_n <| aw_case s66_62 (fun hq_63 => ?_) (fun hq_63 => ?_)
    ·replace hq_63 := bt hq_63; cases hq_63
    replace hq_63 := bf hq_63
    refine aw_skip <| then_n <| aw_seq <| at_ <| ar (ro_move s7_62) rfl <| ar (ro_assign up_h) rfl <| ar (ro_assign ev_c) rfl <| ae2 (up_m rfl up_h) up_h ?_; clear s66_62 s7_62; intro e_66 s4_66 s5_66
    refine then_n <| aw_ret <| ret2 (.inr rfl) (by kernel_rfl) (resV_tmp s4_66) (resV_tmp s5_66) (.ro _ rfl) (.ro _ rfl) ?_
    clear s4_66 s5_66 ml_50
    (first | (refine num_bad fun hk => ?_; obtain ⟨n1, n2, n3, n4⟩ := num_no2 hk; first | omega | (have hz := n4 i.toNat (by omega) (by omega); omega)) | (have he := num_end (l := tx.data.toList) (D := D) (i := i) (n := n) hD (by omega) (by omega) (by omega) (by omega) p3; unfold numR; rw [he.1, if_pos rfl, he.2]; first | (rw [if_pos hA]; done) | (rw [if_neg (by omega)]; done)))
theorem z6_sl104 : SlIs Tryz.prog 104 9 1 16 (.string ByteArray.empty) := ⟨by kernel_rfl, by kernel_rfl, by kernel_rfl⟩
def opn (tx : ByteArray) (c : UInt8) : Nat → Nat
 | 0 => 0
 | i + 1 => if tx.data.toList.getD i default = c then i + 1 else opn tx c i
def cls (tx : ByteArray) (c : UInt8) : Nat → List ByteArray
 | 0 => []
 | i + 1 => if tx.data.toList.getD i default = c then cls tx c i ++ [tx.extract (opn tx c i) i] else cls tx c i
def pcs (tx : ByteArray) (c : UInt8) : List ByteArray := cls tx c tx.size ++ [tx.extract (opn tx c tx.size) tx.size]
theorem opn_le (tx : ByteArray) (c : UInt8) : ∀ i : Nat, opn tx c i ≤ i
 | 0 => Nat.le_refl _
 | i + 1 => by have := opn_le tx c i; simp only [opn]; split <;> omega
theorem cls_len (tx : ByteArray) (c : UInt8) : ∀ i : Nat, (cls tx c i).length ≤ i
 | 0 => Nat.le_refl _
 | i + 1 => by
  have := cls_len tx c i
  simp only [cls]; split
  ·rw [List.length_append, List.length_singleton]; omega
  ·omega
def sxE (b : ByteArray) : List AV := [.v (.string b)]
theorem one_sxE (b : ByteArray) : [[AV.v (.string b)]] = [b].map sxE := rfl
theorem opn_T {tx : ByteArray} {c : UInt8} {i : Nat} (h : tx.data.toList.getD i default = c) : opn tx c (i + 1) = i + 1 ∧ cls tx c (i + 1) = cls tx c i ++ [tx.extract (opn tx c i) i] := by
 simp only [opn, cls]; rw [if_pos h, if_pos h]; exact ⟨rfl, rfl⟩
theorem opn_F {tx : ByteArray} {c : UInt8} {i : Nat} (h : ¬ tx.data.toList.getD i default = c) : opn tx c (i + 1) = opn tx c i ∧ cls tx c (i + 1) = cls tx c i := by
 simp only [opn, cls]; rw [if_neg h, if_neg h]; exact ⟨rfl, rfl⟩
theorem u8_of {a b : UInt8} (h : (a.toNat : Int) = b.toNat) : a = b := UInt8.toNat_inj.1 (by omega)
theorem u8_not {a b : UInt8} (h : ¬ (a.toNat : Int) = b.toNat) : ¬ a = b := fun e => h (by rw [e])
theorem cut_T {tx : ByteArray} {c : UInt8} {i f : Int} {xs : List ByteArray} (p1 : 0 ≤ i) (p3 : f = opn tx c i.toNat) (p4 : xs = cls tx c i.toNat) (h : ((tx.data.toList.getD i.toNat default).toNat : Int) = c.toNat) :
 i + 1 = opn tx c (i + 1).toNat ∧ xs ++ [tx.extract f.toNat i.toNat] = cls tx c (i + 1).toNat := by
 have hh := opn_T (u8_of h)
 rw [show (i + 1).toNat = i.toNat + 1 by omega, hh.1, hh.2, p4, p3]
 exact ⟨by omega, by simp⟩
theorem cut_F {tx : ByteArray} {c : UInt8} {i f : Int} {xs : List ByteArray} (p1 : 0 ≤ i) (p3 : f = opn tx c i.toNat) (p4 : xs = cls tx c i.toNat) (h : ¬ ((tx.data.toList.getD i.toNat default).toNat : Int) = c.toNat) :
 f = opn tx c (i + 1).toNat ∧ xs = cls tx c (i + 1).toNat := by
 have hh := opn_F (u8_not h)
 rw [show (i + 1).toNat = i.toNat + 1 by omega, hh.1, hh.2]
 exact ⟨p3, p4⟩
set_option maxRecDepth 100000 in
set_option maxHeartbeats 4000000 in
theorem bCut_ok (tx : ByteArray) (c : UInt8) (hl : tx.size ≤ 1000000) : FnOk Tryz.prog 45 [.v (.string tx), .v (.int .u8 c.toNat)] (fun q => q = .row 1 ((pcs tx c).map sxE)) := by
 refine fnOk_of (fn := Tryz.f45) 34 (by kernel_rfl) rfl (by kernel_rfl) (Nat.le_of_ble_eq_true rfl) ?_
 intro e_0 m_0 hA hm_0
 have s0_0 : evA e_0 (.tmp 0) = _ := hA 0 _ rfl
 have s1_0 : evA e_0 (.tmp 1) = _ := hA 1 _ rfl
 have ml_0 : m_0.length = 0 := by rw [hm_0]; rfl
 clear hA hm_0
 refine aw_seq <| at_ <| ar (ro_assign ev_c) rfl <| ae2 (up_m rfl s0_0) (up_m rfl s1_0) ?_; clear s0_0 s1_0; intro e_1 s0_1 s1_1
 refine then_n <| aw_seq <| at_ <| ar (ro_assign ev_c) rfl <| ae3 (up_m rfl s0_1) (up_m rfl s1_1) up_h ?_; clear s0_1 s1_1; intro e_2 s0_2 s1_2 s5_2
 refine then_n <| aw_seq <| at_ <| ar (ro_assign ev_c) rfl <| ae4 (up_m rfl s0_2) (up_m rfl s1_2) (up_m rfl s5_2) up_h ?_; clear s0_2 s1_2 s5_2; intro e_3 s0_3 s1_3 s5_3 s6_3
 refine then_n <| aw_seq <| aw_seq <| at_ <| ar (ro_assign ev_c) rfl <| ae5 (up_m rfl s0_3) (up_m rfl s1_3) (up_m rfl s5_3) (up_m rfl s6_3) up_h ?_; clear s0_3 s1_3 s5_3 s6_3; intro e_4 s0_4 s1_4 s5_4 s6_4 s7_4
 refine then_n <| aw_block <| aw_adopt 9 1 s5_4 ml_0 (fun m_5 e_5 hm_5 he_5 => ?_)
 have mo0_5 := m_push hm_5 ml_0
 have ml_5 := m_push_l hm_5 ml_0
 have ml_5 : _ = 1 := ml_5
 have s0_5 : evA e_5 (.tmp 0) = _ := (congrArg (fun q => evA q (.tmp 0)) he_5).trans (up_m rfl s0_4)
 have s1_5 : evA e_5 (.tmp 1) = _ := (congrArg (fun q => evA q (.tmp 1)) he_5).trans (up_m rfl s1_4)
 have s5_5 : evA e_5 (.tmp 5) = _ := (congrArg (fun q => evA q (.tmp 5)) he_5).trans up_h
 have s6_5 : evA e_5 (.tmp 6) = _ := (congrArg (fun q => evA q (.tmp 6)) he_5).trans (up_m rfl s6_4)
 have s7_5 : evA e_5 (.tmp 7) = _ := (congrArg (fun q => evA q (.tmp 7)) he_5).trans (up_m rfl s7_4)
 clear hm_5 he_5
 refine aw_loop (S := (Int × Int × List ByteArray)) (fun s e mem => match s with | ⟨i, f, xs⟩ => (evA e (.tmp 7) = .v (.int .i64 i)) ∧ (evA e (.tmp 6) = .v (.int .i64 f)) ∧ (evA e (.tmp 0) = evA e_5 (.tmp 0)) ∧ (evA e (.tmp 1) = evA e_5 (.tmp 1)) ∧ (∃ j, evA e (.tmp 5) = .own j ∧ mem[j]? = some (.row 9 1 (xs.map sxE)) ∧ True) ∧ (∃ n, mem.length = n ∧ 1 ≤ n) ∧ ((0 ≤ i ∧ i ≤ tx.size ∧ f = opn tx c i.toNat ∧ xs = cls tx c i.toNat))) (fun s => match s with | ⟨i, f, xs⟩ => (tx.size - i).toNat) ⟨_, _, []⟩ ⟨s7_5, s6_5, rfl, rfl, ⟨_, s5_5, mo0_5, trivial⟩, ⟨_, ml_5, Nat.le_refl _⟩, ?_⟩ ?_
 ·(exact ⟨by omega, by omega, rfl, rfl⟩)
 ·rintro ⟨i, f, xs⟩ e_6 m_6 ⟨s7_6, s6_6, k0_6, k1_6, ⟨j5_6, s5_6, mo_j5_6, -⟩, ⟨n_6, ml_6, hn_6⟩, hinv⟩
  have s0_6 := k0_6.trans s0_5
  have s1_6 := k1_6.trans s1_5
  have jl5_6 := m_lt mo_j5_6 ml_6
  (obtain ⟨p1, p2, p3, p4⟩ := hinv; have ho := opn_le tx c i.toNat; have hxl : xs.length ≤ 1000000 := (by rw [p4]; have := cls_len tx c i.toNat; omega))
  refine aw_seq <| aw_seq <| at_ <| ar (ro_move s7_6) rfl <| ar (ro_move (up_m rfl s0_6)) rfl <| ar (ro_len_str up_h rfl qun9) rfl <| ar (ro_lss (u2 rfl up_h) up_h) rfl <| ae6 (u4 rfl s0_6) (u4 rfl s1_6) (u4 rfl s5_6) (u4 rfl s6_6) (u4 rfl s7_6) up_h ?_; clear s0_6 s1_6 s5_6 s6_6 s7_6; intro e_7 s0_7 s1_7 s5_7 s6_7 s7_7 s11_7
  refine then_n <| aw_case s11_7 (fun hq_8 => ?_) (fun hq_8 => ?_)
  ·replace hq_8 := bt hq_8
   refine aw_skip <| then_n <| aw_seq <| aw_block <| aw_seq <| at_ <| ar (ro_move s0_7) rfl <| ar (ro_move (up_m rfl s7_7)) rfl <| ar (ro_sindex (up_m rfl up_h) up_h qun9 (by omega) (by refine idx_str ?_; first | omega | (simp <;> omega; done) | (refine Nat.lt_of_lt_of_le (m := 256) ?_ (by decide +kernel); omega))) rfl ?_
   refine ar (ro_move (up_m rfl (u2 rfl s1_7))) rfl <| ar (ro_eql (up_m rfl up_h) up_h) rfl ?_
   refine ae6 (up_m rfl (u4 rfl s0_7)) (up_m rfl (u4 rfl s1_7)) (up_m rfl (u4 rfl s5_7)) (up_m rfl (u4 rfl s6_7)) (up_m rfl (u4 rfl s7_7)) up_h ?_; clear s0_7 s11_7 s1_7 s5_7 s6_7 s7_7; intro e_9 s0_9 s1_9 s5_9 s6_9 s7_9 s18_9
   refine then_n <| aw_case s18_9 (fun hq_10 => ?_) (fun hq_10 => ?_)
   ·replace hq_10 := bt hq_10
    refine aw_seq <| at_ <| ar (ro_move s5_9) rfl <| ar (ro_move (up_m rfl s0_9)) rfl <| ar (ro_move (u2 rfl s6_9)) rfl <| ar (ro_move (up_m rfl (u2 rfl s7_9))) rfl <| ar (ro_sslice (u2 rfl up_h) (up_m rfl up_h) up_h qun9 (by omega) (by omega) (by omega)) rfl ?_
    refine ar (ro_lit z6_sl104 (evP_cons up_h evP_nil) rfl rfl rfl rfl) rfl <| al_stm (st_app z6_sl104 rfl ml_6 mo_j5_6 (up_m rfl (u4 rfl up_h)) up_h (by rfl) (by simp only [lnS] <;> omega)) trivial rfl (fun m_11 hm_11 => ?_)
    have mon_6_11 := m_swap hm_11 ml_6
    simp only [pS, Value.cells, Nat.reduceAdd, one_sxE, app_m] at mon_6_11
    have ml_11 := m_swap_l hm_11 ml_6
    clear hm_11 mo_j5_6
    refine ar (ro_assign up_h) rfl <| ae4 (u8 rfl s0_9) (u8 rfl s1_9) up_h (u8 rfl s7_9) ?_; clear s0_9 s18_9 s1_9 s5_9 s6_9 s7_9; intro e_12 s0_12 s1_12 s5_12 s7_12
    refine then_n <| at_ <| ar (ro_move s7_12) rfl ?_
    (refine ar (ro_add' up_h ev_c ?_) rfl ?_; · (unfold In64; omega))
    refine ar (ro_assign up_h) rfl <| ae5 (up_m rfl (u2 rfl s0_12)) (up_m rfl (u2 rfl s1_12)) (up_m rfl (u2 rfl s5_12)) up_h (up_m rfl (u2 rfl s7_12)) ?_; clear s0_12 s1_12 s5_12 s7_12; intro e_13 s0_13 s1_13 s5_13 s6_13 s7_13
    refine block_n <| then_n <| at_ <| ar (ro_move s7_13) rfl ?_
    (refine ar (ro_add' up_h ev_c ?_) rfl ?_; · (unfold In64; omega))
    refine ar (ro_assign up_h) rfl <| ae5 (up_m rfl (u2 rfl s0_13)) (up_m rfl (u2 rfl s1_13)) (up_m rfl (u2 rfl s5_13)) (up_m rfl (u2 rfl s6_13)) up_h ?_; clear s0_13 s1_13 s5_13 s6_13 s7_13; intro e_14 s0_14 s1_14 s5_14 s6_14 s7_14
    refine then_n <| ⟨⟨_, _, _⟩, ⟨s7_14, s6_14, (s0_14.trans s0_5.symm), (s1_14.trans s1_5.symm), ⟨_, s5_14, mon_6_11, trivial⟩, ⟨_, ml_11, by omega⟩, ?_⟩, ?_⟩
    ·(first | exact ⟨by omega, by omega, cut_T p1 p3 p4 (by assumption)⟩ | exact ⟨by omega, by omega, cut_F p1 p3 p4 (by assumption)⟩)
    ·((try dsimp only); omega)
   replace hq_10 := bf hq_10
   refine aw_skip <| block_n <| then_n <| at_ <| ar (ro_move s7_9) rfl ?_
   (refine ar (ro_add' up_h ev_c ?_) rfl ?_; · (unfold In64; omega))
   refine ar (ro_assign up_h) rfl <| ae5 (up_m rfl (u2 rfl s0_9)) (up_m rfl (u2 rfl s1_9)) (up_m rfl (u2 rfl s5_9)) (up_m rfl (u2 rfl s6_9)) up_h ?_; clear s0_9 s18_9 s1_9 s5_9 s6_9 s7_9; intro e_15 s0_15 s1_15 s5_15 s6_15 s7_15
   refine then_n <| ⟨⟨_, _, _⟩, ⟨s7_15, s6_15, (s0_15.trans s0_5.symm), (s1_15.trans s1_5.symm), ⟨_, s5_15, mo_j5_6, trivial⟩, ⟨_, ml_6, by omega⟩, ?_⟩, ?_⟩
   ·(first | exact ⟨by omega, by omega, cut_T p1 p3 p4 (by assumption)⟩ | exact ⟨by omega, by omega, cut_F p1 p3 p4 (by assumption)⟩)
   ·((try dsimp only); omega)
  replace hq_8 := bf hq_8
  refine aw_exit <| then_x <| then_x <| block_hit <| then_n <| aw_seq <| at_ <| ar (ro_move s5_7) rfl <| ar (ro_move (up_m rfl s0_7)) rfl <| ar (ro_move (u2 rfl s6_7)) rfl <| ar (ro_sslo (up_m rfl up_h) up_h qun9 (by omega) (by omega)) rfl ?_
  refine ar (ro_lit z6_sl104 (evP_cons up_h evP_nil) rfl rfl rfl rfl) rfl <| al_stm (st_app z6_sl104 rfl ml_6 mo_j5_6 (u4 rfl up_h) up_h (by rfl) (by simp only [lnS] <;> omega)) trivial rfl (fun m_16 hm_16 => ?_)
  have mon_6_16 := m_swap hm_16 ml_6
  simp only [pS, Value.cells, Nat.reduceAdd, one_sxE, app_m] at mon_6_16
  have ml_16 := m_swap_l hm_16 ml_6
  clear hm_16 mo_j5_6
  refine ar (ro_assign up_h) rfl <| ae1 up_h ?_; clear s0_7 s11_7 s1_7 s5_7 s6_7 s7_7; intro e_17 s4_17
  refine then_n <| aw_ret <| ret1 (.inr rfl) (by kernel_rfl) (resV_tmp s4_17) (.own _ _ _ _ mon_6_16) ?_
  clear s4_17 mon_6_16 ml_16
  (have hi : i.toNat = tx.size := (by omega); unfold pcs; rw [← hi, ← p4]; rw [show f.toNat = opn tx c i.toNat by omega])
theorem numK_byte {l : List UInt8} {D : Nat} {c : UInt8} (h : numK l D = true) (hc : c.toNat < 45) : ∀ k : Nat, l[k]? ≠ some c := fun k hk => by
 obtain ⟨n1, n2, n3, n4⟩ := num_no2 h
 have hl := (List.getElem?_eq_some_iff.1 hk).1
 rw [getD_some hl] at hk
 have hk' := Option.some.inj hk
 have := numA_two l
 by_cases hka : numA l ≤ k
 ·have := n4 k hka hl
  rw [hk'] at this; omega
 ·have h1 : numA l = 1 := by omega
  have h2 := ((numA_dec l).1 h1).2
  obtain rfl : k = 0 := by omega
  rw [hk'] at h2; omega
theorem z7_hcf162 : ∀ args w, (callFunc 162 args).run Tryz.prog w = .ok (.enter 162 args) w := fun _ _ => by kernel_rfl
theorem z7_hcf163 : ∀ args w, (callFunc 163 args).run Tryz.prog w = .ok (.enter 163 args) w := fun _ _ => by kernel_rfl
theorem z7_uf123 : isIf (Tryz.prog.underlying 123) = true := by kernel_rfl
theorem cmp_bs (l : List UInt8) (tx : ByteArray) : ((⟨l.toArray⟩ : ByteArray).toList == tx.toList) = decide (l = tx.data.toList) := by
 have h1 : (⟨l.toArray⟩ : ByteArray).toList = l := bs_toList l
 rw [h1, toList_data]
 rw [Bool.eq_iff_iff]; simp
theorem numK_good {l : List UInt8} {v : Int} (h : atoiAll l = .ok v) (D : Nat) : numK l D = (decide (itoa v = l) && decide ((trimPrefix l [45]).length ≤ D)) ∧ numN l = v := by
 unfold numK numN; rw [h]; exact ⟨rfl, rfl⟩
theorem numK_bad {l : List UInt8} (h : ∀ v, atoiAll l ≠ .ok v) (D : Nat) : numK l D = false := by
 unfold numK
 rcases hq : atoiAll l with v | _ | _
 ·exact absurd hq (h v)
 ·rfl
 ·rfl
section
variable (es er : Value) (hes : isE es) (her : isE er) (tx : ByteArray) (hl : tx.size ≤ 1000000)
include hl
set_option maxRecDepth 100000 in
set_option maxHeartbeats 4000000 in
theorem kNumber_good (below : Bool) (v : Int) (h : atoiAll tx.data.toList = .ok v) : FnOkG Tryz.prog (gX es er) 152 [.v (.string tx), .v (.bool below)] (fun q => q = .tuple [.v (.int .i64 (numN tx.data.toList)), .v (.bool (numK tx.data.toList 11 && (below || decide (0 ≤ numN tx.data.toList))))]) := by
 obtain ⟨hk, hn⟩ := numK_good h 11
 have hb := atoiAll_bounds h
 have hc := cmp_bs (itoa v) tx
 rw [hk, hn]
 refine fnOkG_of (fn := Tryz.f152) (gX es er) 35 (by kernel_rfl) rfl (by kernel_rfl) (Nat.le_of_ble_eq_true rfl) ?_
 intro e_0 m_0 hA hm_0
 have s0_0 : evA e_0 (.tmp 0) = _ := hA 0 _ rfl
 have s1_0 : evA e_0 (.tmp 1) = _ := hA 1 _ rfl
 have ml_0 : m_0.length = 1 := by rw [hm_0]; rfl
 have mo0_0 : m_0[0]? = some (.glob (gX es er)) := by rw [hm_0]; rfl
 clear hA hm_0
 refine aw_seq <| at_ <| ar (ro_assign ev_c) rfl <| ar (ro_assign ev_c) rfl <| ae2 (u2 rfl s0_0) (u2 rfl s1_0) ?_; clear s0_0 s1_0; intro e_1 s0_1 s1_1
 refine then_n <| aw_seq <| at_ <| ar (ro_move s0_1) rfl <| ar (ro_call (evL_cons up_h evL_nil) rfl (atoi_good tx (by omega) v h) z7_hcf162) rfl ?_
 refine ar (ro_move up_h) rfl <| ar (ro_extract up_h rfl) rfl <| ar (ro_extract (up_m rfl up_h) rfl) rfl <| ar (ro_assign (up_m rfl up_h)) rfl <| ar (ro_assign (up_m rfl up_h)) rfl <| ae4 (up_m rfl (u2 rfl (u4 rfl s0_1))) (up_m rfl (u2 rfl (u4 rfl s1_1))) (up_m rfl up_h) up_h ?_; clear s0_1 s1_1; intro e_2 s0_2 s1_2 s6_2 s7_2
 refine then_n <| aw_seq <| at_ <| ar (ro_move s6_2) rfl <| ar (ro_move (up_m rfl s7_2)) rfl <| ar (ro_ifnil up_h z7_uf123) rfl <| ar (ro_move up_h) rfl <| al_case up_h (fun hb_3 hq_3 => ?_) (fun hb_3 hq_3 => ?_)
 ·skip
  refine al_ro' (ro_move (u4 rfl s6_2)) ⟨_, rfl, hb_3⟩ rfl ?_
  refine al_ro' (ro_callG (evL_cons up_h evL_nil) rfl mo0_0 (itoa_ok es er v (by unfold In64; omega)) qhcf51) ⟨_, rfl, (up_m rfl hb_3)⟩ rfl ?_
  refine al_ro' (ro_move (u2 rfl (u4 rfl s0_2))) ⟨_, rfl, (u2 rfl hb_3)⟩ rfl ?_
  refine al_ro' (ro_seql (up_m rfl up_h) up_h) ⟨_, rfl, (up_m rfl (u2 rfl hb_3))⟩ rfl ?_
  refine ar (ro_pickT (u4 rfl hb_3) up_h) rfl <| ar (ro_move up_h) rfl <| al_case up_h (fun hb_4 hq_4 => ?_) (fun hb_4 hq_4 => ?_)
  ·skip
   refine al_ro' (ro_move (u2 rfl (u8 rfl s0_2))) ⟨_, rfl, hb_4⟩ rfl ?_
   refine al_ro' (ro_call (evL_cons up_h (evL_cons ev_c evL_nil)) rfl (trimPrefix_ok tx _) z7_hcf163) ⟨_, rfl, (up_m rfl hb_4)⟩ rfl ?_
   refine al_ro' (ro_len_str up_h rfl qun9) ⟨_, rfl, (u2 rfl hb_4)⟩ rfl ?_
   refine al_ro' (ro_leq up_h ev_c) ⟨_, rfl, (up_m rfl (u2 rfl hb_4))⟩ rfl ?_
   refine ar (ro_pickT (u4 rfl hb_4) up_h) rfl <| ar (ro_move up_h) rfl <| al_case up_h (fun hb_5 hq_5 => ?_) (fun hb_5 hq_5 => ?_)
   ·replace hq_5 := bt hq_5
    refine al_ro' (ro_move (u16 rfl s1_2)) ⟨_, rfl, hb_5⟩ rfl ?_
    refine al_ro' (ro_move up_h) ⟨_, rfl, (up_m rfl hb_5)⟩ rfl ?_
    refine al_case up_h (fun hb_6 hq_6 => ?_) (fun hb_6 hq_6 => ?_)
    ·skip
     refine al_skip' ⟨_, rfl, .inl hb_6⟩ rfl ?_
     refine al_skip' ⟨_, rfl, .inl (up_m rfl hb_6)⟩ rfl ?_
     refine al_ro' (ro_pickT (u2 rfl hb_6) ev_c) ⟨_, rfl, (u4 rfl hb_5)⟩ rfl ?_
     refine ar (ro_pickT (up_m rfl (u4 rfl hb_5)) up_h) rfl <| ar (ro_assign (up_m rfl (u4 rfl (u16 rfl up_h)))) rfl <| ar (ro_assign (up_m rfl up_h)) rfl <| ae2 (up_m rfl up_h) up_h ?_; clear hb_3 hb_4 hb_5 hb_6 s0_2 s1_2 s6_2 s7_2; intro e_7 s4_7 s5_7
     refine then_n <| aw_ret <| ret2 (.inr rfl) (by kernel_rfl) (resV_tmp s4_7) (resV_tmp s5_7) (.ro _ rfl) (.ro _ rfl) ?_
     clear s4_7 s5_7 mo0_0 ml_0
     (first | (simp_all [size_mk]; done) | (simp_all [size_mk] <;> omega))
    refine al_ro' (ro_move (u2 rfl (u16 rfl s6_2))) ⟨_, rfl, hb_6⟩ rfl ?_
    refine al_ro' (ro_geq up_h ev_c) ⟨_, rfl, (up_m rfl hb_6)⟩ rfl ?_
    refine al_ro' (ro_pickF (u2 rfl hb_6) up_h) ⟨_, rfl, (u4 rfl hb_5)⟩ rfl ?_
    refine ar (ro_pickT (up_m rfl (u4 rfl hb_5)) up_h) rfl <| ar (ro_assign (up_m rfl (u4 rfl (u16 rfl up_h)))) rfl <| ar (ro_assign (up_m rfl up_h)) rfl <| ae2 (up_m rfl up_h) up_h ?_; clear hb_3 hb_4 hb_5 hb_6 s0_2 s1_2 s6_2 s7_2; intro e_8 s4_8 s5_8
    refine then_n <| aw_ret <| ret2 (.inr rfl) (by kernel_rfl) (resV_tmp s4_8) (resV_tmp s5_8) (.ro _ rfl) (.ro _ rfl) ?_
    clear s4_8 s5_8 mo0_0 ml_0
    (first | (simp_all [size_mk]; done) | (simp_all [size_mk] <;> omega))
   replace hq_5 := bf hq_5
   refine al_skip' ⟨_, rfl, .inl hb_5⟩ rfl ?_
   refine al_skip' ⟨_, rfl, .inl (up_m rfl hb_5)⟩ rfl ?_
   refine al_skip' ⟨_, rfl, .inr up_h⟩ rfl ?_
   refine al_skip' ⟨_, rfl, .inr (up_m rfl up_h)⟩ rfl ?_
   refine al_skip' ⟨_, rfl, .inl (u4 rfl hb_5)⟩ rfl ?_
   refine ar (ro_pickF (up_m rfl (u4 rfl hb_5)) ev_c) rfl <| ar (ro_assign (up_m rfl (u4 rfl (u16 rfl up_h)))) rfl <| ar (ro_assign (up_m rfl up_h)) rfl <| ae2 (up_m rfl up_h) up_h ?_; clear hb_3 hb_4 hb_5 s0_2 s1_2 s6_2 s7_2; intro e_9 s4_9 s5_9
   refine then_n <| aw_ret <| ret2 (.inr rfl) (by kernel_rfl) (resV_tmp s4_9) (resV_tmp s5_9) (.ro _ rfl) (.ro _ rfl) ?_
   clear s4_9 s5_9 mo0_0 ml_0
   (first | (simp_all [size_mk]; done) | (simp_all [size_mk] <;> omega))
  refine al_skip' ⟨_, rfl, .inl hb_4⟩ rfl ?_
  refine al_skip' ⟨_, rfl, .inl (up_m rfl hb_4)⟩ rfl ?_
  refine al_skip' ⟨_, rfl, .inl (u2 rfl hb_4)⟩ rfl ?_
  refine al_skip' ⟨_, rfl, .inl (up_m rfl (u2 rfl hb_4))⟩ rfl ?_
  refine ar (ro_pickF (u4 rfl hb_4) ev_c) rfl <| ar (ro_move up_h) rfl <| al_skip' ⟨_, rfl, .inl up_h⟩ rfl ?_
  refine al_skip' ⟨_, rfl, .inl (up_m rfl up_h)⟩ rfl ?_
  refine al_skip' ⟨_, rfl, .inr up_h⟩ rfl ?_
  refine al_skip' ⟨_, rfl, .inr (up_m rfl up_h)⟩ rfl ?_
  refine al_skip' ⟨_, rfl, .inl (u4 rfl up_h)⟩ rfl ?_
  refine ar (ro_pickF (up_m rfl (u4 rfl up_h)) ev_c) rfl <| ar (ro_assign (up_m rfl (u4 rfl (u16 rfl up_h)))) rfl <| ar (ro_assign (up_m rfl up_h)) rfl <| ae2 (up_m rfl up_h) up_h ?_; clear hb_3 hb_4 s0_2 s1_2 s6_2 s7_2; intro e_10 s4_10 s5_10
  refine then_n <| aw_ret <| ret2 (.inr rfl) (by kernel_rfl) (resV_tmp s4_10) (resV_tmp s5_10) (.ro _ rfl) (.ro _ rfl) ?_
  clear s4_10 s5_10 mo0_0 ml_0
  (first | (simp_all [size_mk]; done) | (simp_all [size_mk] <;> omega))
 ·cases hq_3
include hes her
set_option maxRecDepth 100000 in
set_option maxHeartbeats 4000000 in
theorem kNumber_bad (below : Bool) (h : ∀ v, atoiAll tx.data.toList ≠ .ok v) : FnOkG Tryz.prog (gX es er) 152 [.v (.string tx), .v (.bool below)] (fun q => q = .tuple [.v (.int .i64 (numN tx.data.toList)), .v (.bool (numK tx.data.toList 11 && (below || decide (0 ≤ numN tx.data.toList))))]) := by
 rw [numK_bad h]
 refine fnOkG_of (fn := Tryz.f152) (gX es er) 35 (by kernel_rfl) rfl (by kernel_rfl) (Nat.le_of_ble_eq_true rfl) ?_
 intro e_0 m_0 hA hm_0
 have s0_0 : evA e_0 (.tmp 0) = _ := hA 0 _ rfl
 have s1_0 : evA e_0 (.tmp 1) = _ := hA 1 _ rfl
 have ml_0 : m_0.length = 1 := by rw [hm_0]; rfl
 have mo0_0 : m_0[0]? = some (.glob (gX es er)) := by rw [hm_0]; rfl
 clear hA hm_0
 refine aw_seq <| at_ <| ar (ro_assign ev_c) rfl <| ar (ro_assign ev_c) rfl <| ae2 (u2 rfl s0_0) (u2 rfl s1_0) ?_; clear s0_0 s1_0; intro e_1 s0_1 s1_1
 refine then_n <| aw_seq <| at_ <| ar (ro_move s0_1) rfl <| al_roE (roE_callG (evL_cons up_h evL_nil) rfl mo0_0 (atoi_bad es er hes her tx (by omega) h) z7_hcf162) trivial rfl (fun r_2 hr_2 => ?_)
 obtain ⟨N_2, rfl⟩ := hr_2
 refine ar (ro_move up_h) rfl <| ar (ro_extract up_h rfl) rfl <| ar (ro_extract (up_m rfl up_h) rfl) rfl <| ar (ro_assign (up_m rfl up_h)) rfl <| ar (ro_assign (up_m rfl up_h)) rfl <| ae4 (up_m rfl (u2 rfl (u4 rfl s0_1))) (up_m rfl (u2 rfl (u4 rfl s1_1))) (up_m rfl up_h) up_h ?_; clear s0_1 s1_1; intro e_3 s0_3 s1_3 s6_3 s7_3
 refine then_n <| aw_seq <| at_ <| ar (ro_move s6_3) rfl <| ar (ro_move (up_m rfl s7_3)) rfl <| ar (ro_iferr up_h z7_uf123) rfl <| ar (ro_move up_h) rfl <| al_case up_h (fun hb_4 hq_4 => ?_) (fun hb_4 hq_4 => ?_)
 ·cases hq_4
 refine al_skip' ⟨_, rfl, .inl hb_4⟩ rfl ?_
 refine al_skip' ⟨_, rfl, .inl (up_m rfl hb_4)⟩ rfl ?_
 refine al_skip' ⟨_, rfl, .inl (u2 rfl hb_4)⟩ rfl ?_
 refine al_skip' ⟨_, rfl, .inl (up_m rfl (u2 rfl hb_4))⟩ rfl ?_
 refine ar (ro_pickF (u4 rfl hb_4) ev_c) rfl <| ar (ro_move up_h) rfl <| al_skip' ⟨_, rfl, .inl up_h⟩ rfl ?_
 refine al_skip' ⟨_, rfl, .inl (up_m rfl up_h)⟩ rfl ?_
 refine al_skip' ⟨_, rfl, .inl (u2 rfl up_h)⟩ rfl ?_
 refine al_skip' ⟨_, rfl, .inl (up_m rfl (u2 rfl up_h))⟩ rfl ?_
 refine ar (ro_pickF (u4 rfl up_h) ev_c) rfl <| ar (ro_move up_h) rfl <| al_skip' ⟨_, rfl, .inl up_h⟩ rfl ?_
 refine al_skip' ⟨_, rfl, .inl (up_m rfl up_h)⟩ rfl ?_
 refine al_skip' ⟨_, rfl, .inr up_h⟩ rfl ?_
 refine al_skip' ⟨_, rfl, .inr (up_m rfl up_h)⟩ rfl ?_
 refine al_skip' ⟨_, rfl, .inl (u4 rfl up_h)⟩ rfl ?_
 refine ar (ro_pickF (up_m rfl (u4 rfl up_h)) ev_c) rfl <| ar (ro_assign (up_m rfl (u4 rfl (u16 rfl up_h)))) rfl <| ar (ro_assign (up_m rfl up_h)) rfl <| ae2 (up_m rfl up_h) up_h ?_; clear hb_4 s0_3 s1_3 s6_3 s7_3; intro e_12 s4_12 s5_12
 refine then_n <| aw_ret <| ret2 (.inr rfl) (by kernel_rfl) (resV_tmp s4_12) (resV_tmp s5_12) (.ro _ rfl) (.ro _ rfl) ?_
 clear s4_12 s5_12 mo0_0 ml_0
 (first | (simp_all [size_mk]; done) | (simp_all [size_mk] <;> omega))
theorem kNumber_ok (below : Bool) : FnOkG Tryz.prog (gX es er) 152 [.v (.string tx), .v (.bool below)] (fun q => q = .tuple [.v (.int .i64 (numN tx.data.toList)), .v (.bool (numK tx.data.toList 11 && (below || decide (0 ≤ numN tx.data.toList))))]) := by
 by_cases h : ∃ v, atoiAll tx.data.toList = .ok v
 ·obtain ⟨v, h⟩ := h
  exact kNumber_good es er tx hl below v h
 ·exact kNumber_bad es er hes her tx hl below fun v hv => h ⟨v, hv⟩
end
end Go.Proofs.YtjhcfpdgldpicaaGreatDoor
namespace Go.Proofs.YtjhcfpdgldpicaaGreatDoor
open Go Go.RowKit Go.Proofs Go.Shelf Go.Lib
theorem z21_hcf150 : ∀ args w, (callFunc 150 args).run Tryz.prog w = .ok (.enter 150 args) w := fun _ _ => by kernel_rfl
def lay315_ren : Go.Shelf.Ren := ⟨fun | 315 => 150 | n => n, fun | 9 => 9 | 40 => 194 | 4 => 4 | 3 => 3 | 0 => 0 | 21 => 21 | n => n, fun | n => n⟩
theorem lay315 : Go.Proofs.Lays.n315 Tryz.prog lay315_ren := {
 mixed := by kernel_rfl
 f315 := Tryz.func150.trans (congrArg some (by kernel_rfl))
 t0 := Tryz.underlying0
 a0 := Tryz.isAgg0
 z0 := Tryz.sizeOf0
 v0 := Tryz.zeroValue0
 t3 := Tryz.underlying3
 a3 := Tryz.isAgg3
 z3 := Tryz.sizeOf3
 v3 := Tryz.zeroValue3
 t4 := Tryz.underlying4
 a4 := Tryz.isAgg4
 z4 := Tryz.sizeOf4
 v4 := Tryz.zeroValue4
 t9 := Tryz.underlying9
 a9 := Tryz.isAgg9
 z9 := Tryz.sizeOf9
 v9 := Tryz.zeroValue9
 t21 := Tryz.underlying21
 a21 := Tryz.isAgg21
 z21 := Tryz.sizeOf21
 v21 := Tryz.zeroValue21
 t40 := Tryz.underlying194
 a40 := Tryz.isAgg194
 z40 := Tryz.sizeOf194
 v40 := Tryz.zeroValue194 }
def lay102_ren : Go.Shelf.Ren := ⟨fun | 102 => 41 | 209 => 105 | 207 => 149 | n => n, fun | 9 => 9 | 4 => 4 | 3 => 3 | n => n, fun | n => n⟩
theorem lay102 : Go.Proofs.Lays.n102 Tryz.prog lay102_ren := {
 mixed := by kernel_rfl
 f102 := Tryz.func41.trans (congrArg some (by kernel_rfl))
 f207 := Tryz.func149.trans (congrArg some (by kernel_rfl))
 f209 := Tryz.func105.trans (congrArg some (by kernel_rfl))
 t3 := Tryz.underlying3
 a3 := Tryz.isAgg3
 z3 := Tryz.sizeOf3
 v3 := Tryz.zeroValue3
 t4 := Tryz.underlying4
 a4 := Tryz.isAgg4
 z4 := Tryz.sizeOf4
 v4 := Tryz.zeroValue4
 t9 := Tryz.underlying9
 a9 := Tryz.isAgg9
 z9 := Tryz.sizeOf9
 v9 := Tryz.zeroValue9 }
def blkN (n : Nat) : Bool := n == 32 || n == 9
def blk (b : UInt8) : Bool := b == 32 || b == 9
def nblk (b : UInt8) : Bool := !blk b
theorem blk_nat (b : UInt8) : blkN b.toNat = blk b := by
 unfold blkN blk
 have e1 : (b == 32) = (b.toNat == 32) := by
  rw [Bool.eq_iff_iff, beq_iff_eq, beq_iff_eq]
  exact ⟨fun h => by rw [h]; rfl, fun h => UInt8.toNat_inj.1 (by rw [h]; rfl)⟩
 have e2 : (b == 9) = (b.toNat == 9) := by
  rw [Bool.eq_iff_iff, beq_iff_eq, beq_iff_eq]
  exact ⟨fun h => by rw [h]; rfl, fun h => UInt8.toNat_inj.1 (by rw [h]; rfl)⟩
 rw [e1, e2]
theorem blk_high {n : Nat} (h : 128 ≤ n) : blkN n = false := by
 unfold blkN
 have h1 : (n == 32) = false := by simp; omega
 have h2 : (n == 9) = false := by simp; omega
 rw [h1, h2]; rfl
theorem get_list (s : ByteArray) (j : Nat) (h : j < s.size) : s.get! j = s.data.toList.getD j 0 := by
 have h' : j < s.data.toList.length := by rw [← size_eq]; exact h
 have h2 : j < s.data.size := by simpa using h'
 rw [List.getD_eq_getElem?_getD, List.getElem?_eq_getElem h']
 show s.data[j]! = _
 rw [getElem!_pos s.data j h2]
 simp
theorem decode_wide (s : ByteArray) (pos : Nat) (h : 128 ≤ (s.get! pos).toNat) (hp : pos < s.size) : 128 ≤ (Utf8.decode s pos).1 ∧ 1 ≤ (Utf8.decode s pos).2 ∧ ∀ j, pos ≤ j → j < pos + (Utf8.decode s pos).2 → j < s.size ∧ 128 ≤ (s.get! j).toNat := by
 have hn : ¬ (s.get! (pos + 0)).toNat < 128 := by rw [Nat.add_zero]; omega
 have one : ∀ j, pos ≤ j → j < pos + 1 → j < s.size ∧ 128 ≤ (s.get! j).toNat := fun j h1 h2 => by
  have : j = pos := by omega
  subst this; exact ⟨hp, h⟩
 simp only [Utf8.decode, if_neg hn, Utf8.runeError, Bool.and_eq_true, decide_eq_true_eq, beq_iff_eq]
 split
 ·rename_i h1
  split
  ·refine ⟨by omega, by omega, fun j h3 h4 => ?_⟩
   have : j = pos ∨ j = pos + 1 := by omega
   rcases this with rfl | rfl
   ·exact ⟨hp, h⟩
   ·exact ⟨h1.2.1, by have := h1.2.2; omega⟩
  ·exact ⟨by omega, by omega, one⟩
 ·split
  ·rename_i h1
   split
   ·rename_i h2
    refine ⟨by omega, by omega, fun j h3 h4 => ?_⟩
    have : j = pos ∨ j = pos + 1 ∨ j = pos + 2 := by omega
    rcases this with rfl | rfl | rfl
    ·exact ⟨hp, h⟩
    ·exact ⟨h1.1.2.1, by have := h1.1.2.2; omega⟩
    ·exact ⟨h1.2.1, by have := h1.2.2; omega⟩
   ·exact ⟨by omega, by omega, one⟩
  ·split
   ·rename_i h1
    split
    ·rename_i h2
     refine ⟨by omega, by omega, fun j h3 h4 => ?_⟩
     have : j = pos ∨ j = pos + 1 ∨ j = pos + 2 ∨ j = pos + 3 := by omega
     rcases this with rfl | rfl | rfl | rfl
     ·exact ⟨hp, h⟩
     ·exact ⟨h1.1.1.2.1, by have := h1.1.1.2.2; omega⟩
     ·exact ⟨h1.1.2.1, by have := h1.1.2.2; omega⟩
     ·exact ⟨h1.2.1, by have := h1.2.2; omega⟩
    ·exact ⟨by omega, by omega, one⟩
   ·exact ⟨by omega, by omega, one⟩
theorem decode_low (s : ByteArray) (pos : Nat) (h : (s.get! pos).toNat < 128) : Utf8.decode s pos = ((s.get! pos).toNat, 1) := by
 have hn : (s.get! (pos + 0)).toNat < 128 := by rw [Nat.add_zero]; exact h
 simp only [Utf8.decode, Nat.add_zero]
 rw [if_pos h]
def fstAt (s : ByteArray) (t : Bool) (pos : Nat) (r : Int) : Prop := (r = -1 ∧ ∀ j, pos ≤ j → j < s.size → blkN (s.get! j).toNat ≠ t) ∨ ∃ j : Nat, r = j ∧ pos ≤ j ∧ j < s.size ∧ blkN (s.get! j).toNat = t ∧ ∀ k, pos ≤ k → k < j → blkN (s.get! k).toNat ≠ t
theorem idx_from (s : ByteArray) (t : Bool) : ∀ (f pos : Nat), s.size ≤ pos + f → fstAt s t pos (idxFuncFrom blkN t s f pos)
 | 0, pos, h => .inl ⟨rfl, fun j h1 h2 => by omega⟩
 | f + 1, pos, h => by
  unfold idxFuncFrom
  by_cases hp : pos < s.size
  ·rw [if_pos hp]
   have step : ∀ k, 1 ≤ k → (∀ j, pos ≤ j → j < pos + k → blkN (s.get! j).toNat ≠ t) → fstAt s t pos (idxFuncFrom blkN t s f (pos + k)) := by
    intro k hk hno
    rcases idx_from s t f (pos + k) (by omega) with ⟨h1, h2⟩ | ⟨j, h1, h2, h3, h4, h5⟩
    ·exact .inl ⟨h1, fun j a b => by
      by_cases hj : j < pos + k
      ·exact hno j a hj
      ·exact h2 j (by omega) b⟩
    ·exact .inr ⟨j, h1, by omega, h3, h4, fun q a b => by
      by_cases hj : q < pos + k
      ·exact hno q a hj
      ·exact h5 q (by omega) b⟩
   by_cases hlow : (s.get! pos).toNat < 128
   ·rw [decode_low s pos hlow]
    simp only
    split
    ·rename_i he
     exact .inr ⟨pos, rfl, Nat.le_refl _, hp, he, fun k a b => by omega⟩
    ·rename_i he
     refine step 1 (Nat.le_refl _) fun j a b => ?_
     have : j = pos := by omega
     subst this; exact he
   ·obtain ⟨h1, h2, h3⟩ := decode_wide s pos (by omega) hp
    rw [blk_high h1]
    split
    ·rename_i he
     exact .inr ⟨pos, rfl, Nat.le_refl _, hp, by rw [blk_high (by omega)]; exact he, fun k a b => by omega⟩
    ·rename_i he
     refine step _ h2 fun j a b => ?_
     rw [blk_high (h3 j a b).2]; exact he
  ·rw [if_neg hp]
   exact .inl ⟨rfl, fun j h1 h2 => by omega⟩
theorem take_first {q : UInt8 → Bool} : ∀ {l : List UInt8} {j : Nat}, j < l.length → q (l.getD j 0) = false → (∀ k, k < j → q (l.getD k 0) = true) → l.takeWhile q = l.take j ∧ l.dropWhile q = l.drop j
 | [], j, h, _, _ => by simp at h
 | a :: l, 0, _, h1, _ => by
  have h1' : q a = false := by simpa using h1
  simp [List.takeWhile, List.dropWhile, h1']
 | a :: l, j + 1, h, h1, h2 => by
  have ha : q a = true := by simpa using h2 0 (by omega)
  obtain ⟨e1, e2⟩ := take_first (q := q) (l := l) (j := j) (by simpa using h) (by simpa using h1) (fun k hk => by simpa using h2 (k + 1) (by omega))
  simp [List.takeWhile, List.dropWhile, ha, e1, e2]
theorem take_none {q : UInt8 → Bool} : ∀ {l : List UInt8}, (∀ k, k < l.length → q (l.getD k 0) = true) → l.takeWhile q = l ∧ l.dropWhile q = []
 | [], _ => by simp
 | a :: l, h => by
  have ha : q a = true := by simpa using h 0 (by simp)
  obtain ⟨e1, e2⟩ := take_none (q := q) (l := l) (fun k hk => by simpa using h (k + 1) (by simpa using hk))
  simp [List.takeWhile, List.dropWhile, ha, e1, e2]
def skp (l : List UInt8) : List UInt8 := l.dropWhile blk
def wrd (l : List UInt8) : List UInt8 := l.takeWhile nblk
theorem fst_list {s : ByteArray} {t : Bool} {r : Int} (h : fstAt s t 0 r) : (r = -1 ∧ ∀ j, j < s.data.toList.length → blk (s.data.toList.getD j 0) ≠ t) ∨ ∃ j : Nat, r = j ∧ j < s.data.toList.length ∧ blk (s.data.toList.getD j 0) = t ∧ ∀ k, k < j → blk (s.data.toList.getD k 0) ≠ t := by
 have e := size_eq s
 rcases h with ⟨h1, h2⟩ | ⟨j, h1, h2, h3, h4, h5⟩
 ·refine .inl ⟨h1, fun j hj => ?_⟩
  have := h2 j (Nat.zero_le _) (by omega)
  rwa [get_list s j (by omega), blk_nat] at this
 ·refine .inr ⟨j, h1, by omega, by rwa [get_list s j (by omega), blk_nat] at h4, fun k hk => ?_⟩
  have := h5 k (Nat.zero_le _) hk
  rwa [get_list s k (by omega), blk_nat] at this
theorem idx_skip (s : ByteArray) : (idxFunc blkN false s = -1 ∧ skp s.data.toList = []) ∨ ∃ j : Nat, idxFunc blkN false s = j ∧ j < s.data.toList.length ∧ skp s.data.toList = s.data.toList.drop j := by
 rcases fst_list (idx_from s false s.size 0 (by omega)) with ⟨h1, h2⟩ | ⟨j, h1, h2, h3, h4⟩
 ·exact .inl ⟨h1, (take_none fun k hk => by simpa using h2 k hk).2⟩
 ·exact .inr ⟨j, h1, h2, (take_first h2 h3 fun k hk => by simpa using h4 k hk).2⟩
theorem idx_word (s : ByteArray) : (idxFunc blkN true s = -1 ∧ wrd s.data.toList = s.data.toList) ∨ ∃ j : Nat, idxFunc blkN true s = j ∧ j < s.data.toList.length ∧ wrd s.data.toList = s.data.toList.take j := by
 rcases fst_list (idx_from s true s.size 0 (by omega)) with ⟨h1, h2⟩ | ⟨j, h1, h2, h3, h4⟩
 ·exact .inl ⟨h1, (take_none fun k hk => by have := h2 k hk; simp only [nblk]; simpa using this).1⟩
 ·exact .inr ⟨j, h1, h2, (take_first h2 (by simp only [nblk, h3]; rfl) fun k hk => by have := h4 k hk; simp only [nblk]; simpa using this).1⟩
theorem drop_bs (s : ByteArray) (j : Nat) : s.extract j s.size = bs (s.data.toList.drop j) := by
 rw [← bs_self s, bs_ext, bs_list, bs_size, List.take_of_length_le (by rw [List.length_drop]; omega)]
theorem take_bs (s : ByteArray) (j : Nat) : s.extract 0 j = bs (s.data.toList.take j) := by
 rw [← bs_self s, bs_ext, bs_list]; simp
set_option maxRecDepth 100000 in
set_option maxHeartbeats 4000000 in
theorem isBlank_ok (x : Int) : FnOk Tryz.prog 107 [.v (.int .i32 x)] (fun q => q = .v (.bool (decide (x = 32) || decide (x = 9)))) := by
 refine fnOk_of (fn := Tryz.f107) 9 (by kernel_rfl) rfl (by kernel_rfl) (Nat.le_of_ble_eq_true rfl) ?_
 intro e_0 m_0 hA hm_0
 have s0_0 : evA e_0 (.tmp 0) = _ := hA 0 _ rfl
 have ml_0 : m_0.length = 0 := by rw [hm_0]; rfl
 clear hA hm_0
 refine aw_seq <| at_ <| ar (ro_assign ev_c) rfl <| ae1 (up_m rfl s0_0) ?_; clear s0_0; intro e_1 s0_1
 refine then_n <| aw_seq <| at_ <| ar (ro_move s0_1) rfl <| ar (ro_eql up_h ev_c) rfl ?_
 refine ar (ro_move up_h) rfl <| al_case up_h (fun hb_2 hq_2 => ?_) (fun hb_2 hq_2 => ?_)
 ·replace hq_2 := bt hq_2
  refine al_skip' ⟨_, rfl, .inl hb_2⟩ rfl ?_
  refine al_skip' ⟨_, rfl, .inl (up_m rfl hb_2)⟩ rfl ?_
  refine ar (ro_pickT (u2 rfl hb_2) ev_c) rfl <| ar (ro_assign up_h) rfl <| ae1 up_h ?_; clear hb_2 s0_1; intro e_3 s2_3
  refine then_n <| aw_ret <| ret1 (.inr rfl) (by kernel_rfl) (resV_tmp s2_3) (.ro _ rfl) ?_
  clear s2_3 ml_0
  first | rfl | (simp; done) | (simp_all; done) | omega
 replace hq_2 := bf hq_2
 refine al_ro' (ro_move (up_m rfl (u2 rfl s0_1))) ⟨_, rfl, hb_2⟩ rfl ?_
 refine al_ro' (ro_eql up_h ev_c) ⟨_, rfl, (up_m rfl hb_2)⟩ rfl ?_
 refine ar (ro_pickF (u2 rfl hb_2) up_h) rfl <| ar (ro_assign up_h) rfl <| ae1 up_h ?_; clear hb_2 s0_1; intro e_4 s2_4
 refine then_n <| aw_ret <| ret1 (.inr rfl) (by kernel_rfl) (resV_tmp s2_4) (.ro _ rfl) ?_
 clear s2_4 ml_0
 first | rfl | (simp; done) | (simp_all; done) | omega
theorem blank_grows (w : World) : PredGrows Tryz.prog 107 #[] blkN w := by
 intro W x _ _
 refine (isBlank_ok x (fun _ => False) W [.int .i32 x] rfl fun i a u ha hu => ?_).mono ?_
 ·rcases i with _ | i
  ·simp at ha hu; subst ha hu; exact .v _
  ·simp at ha
 ·rintro en w' ⟨r, v, rfl, rfl, h1, h2⟩
  cases h1
  refine ⟨?_, h2⟩
  congr 2
  unfold blkN
  congr 1 <;> (rw [Bool.eq_iff_iff]; simp; omega)
theorem vs_three {pr : Nat → Prop} {w : World} {a b c : Value} {vs : List Value} (h1 : vs.length = [AV.v a, .v b, .v c].length) (h2 : ∀ (i : Nat) (d : AV) (x : Value), [AV.v a, .v b, .v c][i]? = some d → vs[i]? = some x → R0 pr w d x) : vs = [a, b, c] := by
 match vs, h1 with
 | [x, y, z], _ =>
  have r1 := h2 0 _ x rfl rfl
  have r2 := h2 1 _ y rfl rfl
  have r3 := h2 2 _ z rfl rfl
  cases r1; cases r2; cases r3; rfl
theorem indexF_ok (s : ByteArray) (t : Bool) : FnOk Tryz.prog 150 [.v (.string s), .v (.func (.func 107) #[] #[]), .v (.bool t)] (fun q => q = .v (.int .i64 (idxFunc blkN t s))) := by
 intro pr w vs h1 h2
 rw [vs_three h1 h2]
 refine (Any.strings_indexFunc_grows lay315 107 #[] (fun _ _ => by kernel_rfl) blkN t s w (blank_grows w)).mono ?_
 rintro en w' ⟨rfl, hb⟩
 exact ⟨_, _, rfl, rfl, .v _, hb⟩
set_option maxRecDepth 100000 in
set_option maxHeartbeats 4000000 in
theorem trimLeft_ok (s : ByteArray) (hs : s.size ≤ 1000000000) : FnOk Tryz.prog 106 [.v (.string s), .v (.func (.func 107) #[] #[])] (fun q => q = .v (.string (bs (skp s.data.toList)))) := by
 have e := size_eq s
 rcases idx_skip s with ⟨h1, h2⟩ | ⟨j, h1, h2, h3⟩
 ·rw [h2]
  have hi := indexF_ok s false
  rw [h1] at hi
  refine fnOk_of (fn := Tryz.f106) 14 (by kernel_rfl) rfl (by kernel_rfl) (Nat.le_of_ble_eq_true rfl) ?_
  intro e_0 m_0 hA hm_0
  have s0_0 : evA e_0 (.tmp 0) = _ := hA 0 _ rfl
  have s1_0 : evA e_0 (.tmp 1) = _ := hA 1 _ rfl
  have ml_0 : m_0.length = 0 := by rw [hm_0]; rfl
  clear hA hm_0
  refine aw_seq <| at_ <| ar (ro_assign ev_c) rfl <| ae2 (up_m rfl s0_0) (up_m rfl s1_0) ?_; clear s0_0 s1_0; intro e_1 s0_1 s1_1
  refine then_n <| aw_seq <| at_ <| ar (ro_move s0_1) rfl <| ar (ro_move (up_m rfl s1_1)) rfl <| ar (ro_call (evL_cons (up_m rfl up_h) (evL_cons up_h (evL_cons ev_c evL_nil))) rfl (hi) z21_hcf150) rfl <| ar (ro_assign up_h) rfl <| ae2 (u4 rfl s0_1) up_h ?_; clear s0_1 s1_1; intro e_2 s0_2 s5_2
  refine then_n <| aw_seq <| aw_seq <| at_ <| ar (ro_move s5_2) rfl <| ar (ro_eql up_h ev_c) rfl ?_
  refine ae3 (u2 rfl s0_2) (u2 rfl s5_2) up_h ?_; clear s0_2 s5_2; intro e_3 s0_3 s5_3 s10_3
  refine then_n <| aw_case s10_3 (fun hq_4 => ?_) (fun hq_4 => ?_)
  ·replace hq_4 := bt hq_4
   refine aw_seq <| at_ <| ar (ro_assign ev_c) rfl <| ae1 up_h ?_; clear s0_3 s10_3 s5_3; intro e_5 s4_5
   refine then_n <| aw_ret <| then_r <| ret1 (.inr rfl) (by kernel_rfl) (resV_tmp s4_5) (.ro _ rfl) ?_
   clear s4_5 ml_0
   first | rfl | (simp; done) | (simp_all; done) | omega
  ·replace hq_4 := bf hq_4; exfalso; omega
 ·rw [h3]
  have hi := indexF_ok s false
  rw [h1] at hi
  refine fnOk_of (fn := Tryz.f106) 14 (by kernel_rfl) rfl (by kernel_rfl) (Nat.le_of_ble_eq_true rfl) ?_
  intro e_0 m_0 hA hm_0
  have s0_0 : evA e_0 (.tmp 0) = _ := hA 0 _ rfl
  have s1_0 : evA e_0 (.tmp 1) = _ := hA 1 _ rfl
  have ml_0 : m_0.length = 0 := by rw [hm_0]; rfl
  clear hA hm_0
  refine aw_seq <| at_ <| ar (ro_assign ev_c) rfl <| ae2 (up_m rfl s0_0) (up_m rfl s1_0) ?_; clear s0_0 s1_0; intro e_1 s0_1 s1_1
  refine then_n <| aw_seq <| at_ <| ar (ro_move s0_1) rfl <| ar (ro_move (up_m rfl s1_1)) rfl <| ar (ro_call (evL_cons (up_m rfl up_h) (evL_cons up_h (evL_cons ev_c evL_nil))) rfl (hi) z21_hcf150) rfl <| ar (ro_assign up_h) rfl <| ae2 (u4 rfl s0_1) up_h ?_; clear s0_1 s1_1; intro e_2 s0_2 s5_2
  refine then_n <| aw_seq <| aw_seq <| at_ <| ar (ro_move s5_2) rfl <| ar (ro_eql up_h ev_c) rfl ?_
  refine ae3 (u2 rfl s0_2) (u2 rfl s5_2) up_h ?_; clear s0_2 s5_2; intro e_3 s0_3 s5_3 s10_3
  refine then_n <| aw_case s10_3 (fun hq_4 => ?_) (fun hq_4 => ?_)
  ·replace hq_4 := bt hq_4; cases hq_4
  replace hq_4 := bf hq_4
  refine aw_skip <| then_n <| aw_seq <| at_ <| ar (ro_move s0_3) rfl <| ar (ro_move (up_m rfl s5_3)) rfl <| ar (ro_sslo (up_m rfl up_h) up_h qun9 (by omega) (by omega)) rfl ?_
  refine ar (ro_assign up_h) rfl <| ae1 up_h ?_; clear s0_3 s10_3 s5_3; intro e_6 s4_6
  refine then_n <| aw_ret <| ret1 (.inr rfl) (by kernel_rfl) (resV_tmp s4_6) (.ro _ rfl) ?_
  clear s4_6 ml_0
  rw [← drop_bs]; first | rfl | (simp; done)
def wrdI (l : List UInt8) : Int := if (wrd l).length = l.length then -1 else (wrd l).length
set_option maxRecDepth 100000 in
set_option maxHeartbeats 4000000 in
theorem indexFunc_ok (s : ByteArray) : FnOk Tryz.prog 108 [.v (.string s), .v (.func (.func 107) #[] #[])] (fun q => q = .v (.int .i64 (wrdI s.data.toList))) := by
 have hi := indexF_ok s true
 have hw : idxFunc blkN true s = wrdI s.data.toList := by
  unfold wrdI
  rcases idx_word s with ⟨h1, h2⟩ | ⟨j, h1, h2, h3⟩
  ·rw [h1, h2, if_pos rfl]
  ·rw [h1, h3, List.length_take, Nat.min_eq_left (by omega), if_neg (by omega)]
 rw [hw] at hi
 refine fnOk_of (fn := Tryz.f108) 8 (by kernel_rfl) rfl (by kernel_rfl) (Nat.le_of_ble_eq_true rfl) ?_
 intro e_0 m_0 hA hm_0
 have s0_0 : evA e_0 (.tmp 0) = _ := hA 0 _ rfl
 have s1_0 : evA e_0 (.tmp 1) = _ := hA 1 _ rfl
 have ml_0 : m_0.length = 0 := by rw [hm_0]; rfl
 clear hA hm_0
 refine aw_seq <| at_ <| ar (ro_assign ev_c) rfl <| ae2 (up_m rfl s0_0) (up_m rfl s1_0) ?_; clear s0_0 s1_0; intro e_1 s0_1 s1_1
 refine then_n <| aw_seq <| at_ <| ar (ro_move s0_1) rfl <| ar (ro_move (up_m rfl s1_1)) rfl <| ar (ro_call (evL_cons (up_m rfl up_h) (evL_cons up_h (evL_cons ev_c evL_nil))) rfl (hi) z21_hcf150) rfl <| ar (ro_assign up_h) rfl <| ae1 up_h ?_; clear s0_1 s1_1; intro e_2 s4_2
 refine then_n <| aw_ret <| ret1 (.inr rfl) (by kernel_rfl) (resV_tmp s4_2) (.ro _ rfl) ?_
 clear s4_2 ml_0
 first | rfl | (simp; done) | (simp_all; done) | omega
theorem trimSuffix_ok (s p : ByteArray) (hs : s.size ≤ 1000000000) : FnOk Tryz.prog 41 [.v (.string s), .v (.string p)] (fun q => q = .v (.string (bs (trimSuffix s.data.toList p.data.toList)))) := by
 intro pr w vs h1 h2
 rw [vs_two h1 h2]
 refine (Any.strings_TrimSuffix lay102 s p w (by omega)).mono ?_
 rintro en w' ⟨rfl, rfl⟩
 exact ⟨_, _, rfl, rfl, .v _, Ext.refl _⟩
theorem lay_extra : Builder.Extra Tryz.prog lay156_ren := { toX72 := lay72, t5 := by kernel_rfl, a5 := fun _ => by kernel_rfl, z5 := fun _ => by kernel_rfl, v5 := fun _ => by kernel_rfl, infoByte := by kernel_rfl, cellsByte := by kernel_rfl, sizeByte := by kernel_rfl, neB5 := by decide }
theorem join_ok (xs : List ByteArray) (sep : ByteArray) (hx : xs ≠ []) (hN : xs.length ≤ 1000000) (hlen : (Go.Lib.join (xs.map (·.data.toList)) sep.data.toList).length ≤ 100000000000) :
 FnOk Tryz.prog 52 [.row 1 (xs.map sxE), .v (.string sep)] (fun q => q = .v (.string (bs (Go.Lib.join (xs.map (·.data.toList)) sep.data.toList)))) := by
 intro pr w vs h1 h2
 match vs, h1 with
 | [v, u], _ =>
  have r1 := h2 0 _ v rfl rfl
  have r2 := h2 1 _ u rfl rfl
  cases r2
  have hfl : (xs.map sxE).flatten = xs.map (fun b => AV.v (.string b)) := by
   clear h1 h2 r1 hx hN hlen
   induction xs with
   | nil => rfl
   | cons a l ih => simp [sxE, ih]
  generalize hr : AV.row 1 (xs.map sxE) = rr at r1
  cases r1 with
  | nil k c A => injection hr with _ h; cases xs with
   | nil => exact absurd rfl hx
   | cons a l => simp at h
  | row k els b o c f g1 g2 g3 g4 g5 g6 g7 =>
   injection hr with e1 e2
   subst e1 e2
   have hl : (xs.map sxE).length = xs.length := by simp
   rw [hl] at g2 ⊢
   refine (Any.strings_Join lay156 lay_extra b o c xs sep w (fun j x hj => ?_) g4 (by omega) g2 (by omega)).mono ?_
   ·have h5 : (xs.map sxE).flatten[j]? = some (.v (.string x)) := by rw [hfl, List.getElem?_map, hj]; rfl
    have h6 := g6 j _ h5
    have h7 := g7 j _ h5
    generalize hq : f j = q at h6 h7
    cases h7
    exact h6
   ·rintro en w' ⟨rfl, hb⟩
    exact ⟨_, _, rfl, rfl, .v _, hb⟩
  | any x => cases hr
  | v x => cases hr
  | emp A => cases hr
  | ref cells b o f h4 h5 h6 h7 => cases hr
  | agg l xs h1 h2 => cases hr
  | tuple l xs h1 h2 => cases hr
  | clo fn l m xs ys h1 h2 h3 h4 => cases hr
theorem z22_fl99_0 : FldIs Tryz.prog 99 0 0 false 1 := by unfold FldIs; kernel_rfl
theorem z22_fl99_2 : FldIs Tryz.prog 99 2 2 false 1 := by unfold FldIs; kernel_rfl
theorem z22_hcf106 : ∀ args w, (callFunc 106 args).run Tryz.prog w = .ok (.enter 106 args) w := fun _ _ => by kernel_rfl
theorem z22_hcf108 : ∀ args w, (callFunc 108 args).run Tryz.prog w = .ok (.enter 108 args) w := fun _ _ => by kernel_rfl
theorem z22_hcf146 : ∀ args w, (callFunc 146 args).run Tryz.prog w = .ok (.enter 146 args) w := fun _ _ => by kernel_rfl
theorem z22_ty29 : TyIs Tryz.prog 29 false 1 := ⟨by kernel_rfl, by kernel_rfl⟩
theorem z22_ty3 : TyIs Tryz.prog 3 false 1 := ⟨by kernel_rfl, by kernel_rfl⟩
theorem z22_ty9 : TyIs Tryz.prog 9 false 1 := ⟨by kernel_rfl, by kernel_rfl⟩
structure Scn where
 ln : Int
 a : Nat
 en : Int
 ml : Int
 mc : Int
 e : Int
def scnA (l : List UInt8) (s : Scn) : List AV := [iA s.ln, iA s.a, .v (.string (bs l)), iA s.en, iA s.ml, iA s.mc, iA s.e]
def rstW (l : List UInt8) (a : Nat) : List UInt8 := skp (l.drop a)
def nxtW (l : List UInt8) (a : Nat) : List UInt8 := wrd (rstW l a)
def posW (l : List UInt8) (a : Nat) : Nat := l.length - (rstW l a).length
theorem skp_len (l : List UInt8) : (skp l).length ≤ l.length := by
 unfold skp
 induction l with
 | nil => simp
 | cons b l ih => simp only [List.dropWhile]; split <;> simp; omega
theorem wrd_len (l : List UInt8) : (wrd l).length ≤ l.length := by
 unfold wrd
 induction l with
 | nil => simp
 | cons b l ih => simp only [List.takeWhile]; split <;> simp; omega
theorem wrd_take (l : List UInt8) : wrd l = l.take (wrd l).length := by
 unfold wrd
 induction l with
 | nil => simp
 | cons b l ih =>
  simp only [List.takeWhile]
  split
  ·simp only [List.length_cons, List.take_succ_cons]; rw [← ih]
  ·simp
theorem rstW_len (l : List UInt8) (a : Nat) : (rstW l a).length ≤ l.length - a := by
 have := skp_len (l.drop a)
 rw [List.length_drop] at this
 exact this
theorem nxtW_len (l : List UInt8) (a : Nat) : (nxtW l a).length ≤ (rstW l a).length := wrd_len _
theorem posW_le (l : List UInt8) (a : Nat) : posW l a + (nxtW l a).length ≤ l.length := by
 have h1 := rstW_len l a
 have h2 := nxtW_len l a
 unfold posW
 omega
theorem wrdI_le (r : List UInt8) : wrdI r ≤ r.length ∧ -1 ≤ wrdI r := by
 have := wrd_len r
 unfold wrdI
 split <;> omega
theorem wrd_ext (r : List UInt8) (h : 0 ≤ wrdI r) : (bs r).extract 0 (wrdI r).toNat = bs (wrd r) := by
 unfold wrdI at h ⊢
 split at h
 ·omega
 ·rename_i hn
  rw [if_neg hn, take_bs, bs_list, Int.toNat_natCast, ← wrd_take]
theorem wrd_all (r : List UInt8) (h : ¬ 0 ≤ wrdI r) : wrd r = r := by
 unfold wrdI at h
 split at h
 ·rename_i hn
  rw [wrd_take, hn, List.take_length]
 ·omega
def failS (s : Scn) (c e : Int) : Scn := if s.e = 0 then { s with ml := s.ln, mc := c, e := e } else s
def pekS (l : List UInt8) (s : Scn) : Scn := { s with a := posW l s.a }
def takS (l : List UInt8) (s : Scn) (ok : Bool) (e : Int) : Scn :=
 let s1 := pekS l s
 let s2 := if nxtW l s.a = [] then failS s1 s1.en 6 else if ok then s1 else failS s1 (s1.a + 1) e
 { s2 with a := s1.a + (nxtW l s.a).length, en := s1.a + (nxtW l s.a).length + 1 }
theorem fail_a (s : Scn) (c e : Int) : (failS s c e).a = s.a := by unfold failS; split <;> rfl
theorem tak_le (l : List UInt8) (s : Scn) (ok : Bool) (e : Int) : (takS l s ok e).a ≤ l.length := posW_le l s.a
set_option maxRecDepth 100000 in
set_option maxHeartbeats 4000000 in
theorem isWord_ok (o w : ByteArray) : FnMu Tryz.prog [] 146 [.v (.string o), .ptr 1 0] [.box 9 [.v (.string w)]] (bA (o.toList == w.toList)) [.box 9 [.v (.string w)]] := by
 refine fnMu_of (fn := Tryz.f146) [] 7 (by kernel_rfl) rfl (by kernel_rfl) (Nat.le_of_ble_eq_true rfl) ?_
 intro e_0 m_0 hA hm_0
 have s0_0 : evA e_0 (.tmp 0) = _ := hA 0 _ rfl
 have s1_0 : evA e_0 (.tmp 1) = _ := hA 1 _ rfl
 have ml_0 : m_0.length = 2 := by rw [hm_0]; rfl
 have mo0_0 := m_in0 hm_0
 have mo1_0 := m_in1 hm_0
 clear hA hm_0
 refine aw_seq <| at_ <| ar (ro_assign ev_c) rfl <| ae2 (up_m rfl s0_0) (up_m rfl s1_0) ?_; clear s0_0 s1_0; intro e_1 s0_1 s1_1
 refine then_n <| aw_seq <| at_ <| ar (ro_move s0_1) rfl <| ar (ro_eq (ro_ld_ptr z22_ty9 rfl mo1_0 (up_m rfl s1_1) (nle rfl)) (by simp only [pS, Value.cells, Nat.reduceAdd] <;> rfl)) rfl ?_
 refine ar (ro_seql (up_m rfl up_h) up_h) rfl <| ar (ro_assign up_h) rfl <| ae1 up_h ?_; clear s0_1 s1_1; intro e_2 s3_2
 refine then_n <| aw_ret <| muQ_eq (.inr rfl) [1] ml_0 mo0_0 (by decide) rfl (resM1 (by kernel_rfl) (resV_tmp s3_2)) (emb_ob mo1_0 ?_ .nil) ?_
 all_goals (first | rfl | (simp; done) | (simp_all; done) | omega)
section
variable (l : List UInt8) (s : Scn) (hl : l.length ≤ 1000000) (ha : s.a ≤ l.length)
include hl
set_option maxRecDepth 100000 in
set_option maxHeartbeats 4000000 in
theorem fail_ok (c e : Int) : FnMu Tryz.prog [] 147 [.ptr 1 0, iA c, iA e] [.box 99 (scnA l s)] (.tuple []) [.box 99 (scnA l (failS s c e))] := by
 have := hl
 refine fnMu_of (fn := Tryz.f147) [] 24 (by kernel_rfl) rfl (by kernel_rfl) (Nat.le_of_ble_eq_true rfl) ?_
 intro e_0 m_0 hA hm_0
 have s0_0 : evA e_0 (.tmp 0) = _ := hA 0 _ rfl
 have s1_0 : evA e_0 (.tmp 1) = _ := hA 1 _ rfl
 have s2_0 : evA e_0 (.tmp 2) = _ := hA 2 _ rfl
 have ml_0 : m_0.length = 2 := by rw [hm_0]; rfl
 have mo0_0 := m_in0 hm_0
 have mo1_0 := m_in1 hm_0
 clear hA hm_0
 simp only [scnA] at mo1_0
 refine aw_seq <| at_ <| ar (ro_move s0_0) rfl <| ar (ro_nilP up_h) rfl <| ar (ro_fld_ptr qfl99_5 rfl up_h) rfl <| ar (ro_eq (ro_ld_ptr z22_ty29 rfl mo1_0 up_h (nle rfl)) (by simp only [pS, Value.cells, Nat.reduceAdd] <;> rfl)) rfl ?_
 refine ar (ro_eql up_h ev_c) rfl ?_
 refine ae4 (up_m rfl (u4 rfl s0_0)) (up_m rfl (u4 rfl s1_0)) (up_m rfl (u4 rfl s2_0)) up_h ?_; clear s0_0 s1_0 s2_0; intro e_1 s0_1 s1_1 s2_1 s10_1
 refine then_n <| aw_case s10_1 (fun hq_2 => ?_) (fun hq_2 => ?_)
 ·replace hq_2 := bt hq_2
  refine at_ <| ar (ro_move s0_1) rfl <| ar (ro_move (up_m rfl s0_1)) rfl <| ar (ro_move (u2 rfl s0_1)) rfl <| ar (ro_nilP up_h) rfl <| ar (ro_fld_ptr z22_fl99_0 rfl up_h) rfl <| ar (ro_eq (ro_ld_ptr z22_ty3 rfl mo1_0 up_h (nle rfl)) (by simp only [pS, Value.cells, Nat.reduceAdd] <;> rfl)) rfl ?_
  refine ar (ro_move (u2 rfl (u4 rfl s1_1))) rfl <| ar (ro_build (evP_cons (up_m rfl up_h) (evP_cons up_h evP_nil)) qbz28 qbu28 qbp28 rfl) rfl ?_
  refine ar (ro_move (u8 rfl s2_1)) rfl <| ar (ro_nilP (u8 rfl up_h)) rfl <| ar (ro_fld_ptr qfl99_4 rfl up_h) rfl <| al_stm (st_store up_h (up_m rfl (u2 rfl up_h)) rfl rfl mo1_0 qsz28 rfl (nle rfl)) trivial rfl (fun m_3 hm_3 => ?_)
  have mo1_3 := m_set hm_3 mo1_0
  simp only [pS, Value.cells, Nat.reduceAdd] at mo1_3
  have mo0_3 := m_set_o hm_3 mo0_0 (by decide)
  have ml_3 := m_set_l hm_3 ml_0
  clear hm_3 mo0_0 mo1_0
  refine ar (ro_nilP (up_n (up_m rfl (u8 rfl up_h)))) rfl <| ar (ro_fld_ptr qfl99_5 rfl up_h) rfl <| al_stm (st_store up_h (u2 rfl (up_n (u2 rfl up_h))) rfl rfl mo1_3 qsz29 rfl (nle rfl)) trivial rfl (fun m_4 hm_4 => ?_)
  have mo1_4 := m_set hm_4 mo1_3
  simp only [pS, Value.cells, Nat.reduceAdd] at mo1_4
  have mo0_4 := m_set_o hm_4 mo0_3 (by decide)
  have ml_4 := m_set_l hm_4 ml_3
  clear hm_4 mo1_3 mo0_3
  refine ae0 ?_; clear s0_1 s10_1 s1_1 s2_1; intro e_5
  refine muQ_eq (.inl rfl) [1] ml_4 mo0_4 (by decide) rfl (resM0 (by kernel_rfl)) (emb_ob mo1_4 ?_ .nil) ?_
  all_goals (first | rfl | (simp_all [failS, scnA]; done) | (simp_all [failS, scnA]; rfl))
 replace hq_2 := bf hq_2
 refine aw_skip <| muQ_eq (.inl rfl) [1] ml_0 mo0_0 (by decide) rfl (resM0 (by kernel_rfl)) (emb_ob mo1_0 ?_ .nil) ?_
 all_goals (first | rfl | (simp_all [failS, scnA]; done) | (simp_all [failS, scnA]; rfl))
include ha
set_option maxRecDepth 100000 in
set_option maxHeartbeats 4000000 in
theorem peek_ok : FnMu Tryz.prog [] 42 [.ptr 1 0] [.box 99 (scnA l s)] (.v (.string (bs (nxtW l s.a)))) [.box 99 (scnA l (pekS l s))] := by
 have h1 := rstW_len l s.a
 have hb : (bs (rstW l s.a)).size = (rstW l s.a).length := rfl
 have hz : (bs l).size = l.length := rfl
 have hx : skp ((bs l).extract ((s.a : Int)).toNat (bs l).size).data.toList = rstW l s.a := by rw [bs_ext, bs_list, bs_size, List.take_of_length_le (by rw [List.length_drop]; omega)]; rfl
 have ht := trimLeft_ok ((bs l).extract ((s.a : Int)).toNat (bs l).size) (by rw [bs_ext, bs_size, List.length_take, List.length_drop, bs_size]; omega)
 rw [hx] at ht
 have hi := indexFunc_ok (bs (rstW l s.a))
 rw [bs_list] at hi
 obtain ⟨w1, w2⟩ := wrdI_le (rstW l s.a)
 clear hx
 refine fnMu_of (fn := Tryz.f42) [] 34 (by kernel_rfl) rfl (by kernel_rfl) (Nat.le_of_ble_eq_true rfl) ?_
 intro e_0 m_0 hA hm_0
 have s0_0 : evA e_0 (.tmp 0) = _ := hA 0 _ rfl
 have ml_0 : m_0.length = 2 := by rw [hm_0]; rfl
 have mo0_0 := m_in0 hm_0
 have mo1_0 := m_in1 hm_0
 clear hA hm_0
 simp only [scnA] at mo1_0
 refine aw_seq <| at_ <| ar (ro_assign ev_c) rfl <| ae1 (up_m rfl s0_0) ?_; clear s0_0; intro e_1 s0_1
 refine then_n <| aw_seq <| aw_draw 11 (by kernel_rfl) (by kernel_rfl) (by kernel_rfl) (by kernel_rfl) ?_
 refine dr (ro_move s0_1) rfl <| dr (ro_nilP up_h) rfl <| dr (ro_fld_ptr z22_fl99_2 rfl up_h) rfl <| dr (ro_eq (ro_ld_ptr z22_ty9 rfl mo1_0 up_h (nle rfl)) (by simp only [pS, Value.cells, Nat.reduceAdd] <;> rfl)) rfl ?_
 refine dr (ro_move (u4 rfl s0_1)) rfl <| dr (ro_nilP up_h) rfl <| dr (ro_fld_ptr qfl99_1 rfl up_h) rfl <| dr (ro_eq (ro_ld_ptr z22_ty3 rfl mo1_0 up_h (nle rfl)) (by simp only [pS, Value.cells, Nat.reduceAdd] <;> rfl)) rfl ?_
 refine dr (ro_sslo (u4 rfl up_h) up_h qun9 (by omega) (by omega)) rfl ?_
 refine dr (ro_call (evL_cons up_h (evL_cons ev_f evL_nil)) rfl (ht) z22_hcf106) rfl <| dr (ro_assign up_h) rfl <| ds_nil <| ae2 (up_m rfl (u2 rfl (u8 rfl s0_1))) up_h ?_; clear s0_1; intro e_2 s0_2 s3_2
 refine then_n <| aw_seq <| at_ <| ar (ro_move s0_2) rfl <| ar (ro_move (up_m rfl s0_2)) rfl <| ar (ro_nilP up_h) rfl <| ar (ro_fld_ptr z22_fl99_2 rfl up_h) rfl <| ar (ro_eq (ro_ld_ptr z22_ty9 rfl mo1_0 up_h (nle rfl)) (by simp only [pS, Value.cells, Nat.reduceAdd] <;> rfl)) rfl ?_
 refine ar (ro_len_str up_h rfl qun9) rfl <| ar (ro_move (u2 rfl (u4 rfl s3_2))) rfl <| ar (ro_len_str up_h rfl qun9) rfl ?_
 (refine ar (ro_sub' (u2 rfl up_h) up_h ?_) rfl ?_; · (unfold In64; omega))
 refine ar (ro_nilP (u8 rfl up_h)) rfl <| ar (ro_fld_ptr qfl99_1 rfl up_h) rfl <| al_stm (st_store up_h (u2 rfl up_h) rfl rfl mo1_0 qsz3 rfl (nle rfl)) trivial rfl (fun m_3 hm_3 => ?_)
 have mo1_3 := m_set hm_3 mo1_0
 simp only [pS, Value.cells, Nat.reduceAdd] at mo1_3
 have mo0_3 := m_set_o hm_3 mo0_0 (by decide)
 have ml_3 := m_set_l hm_3 ml_0
 clear hm_3 mo0_0 mo1_0
 refine ae1 (up_n (up_m rfl (u2 rfl (u8 rfl s3_2)))) ?_; clear s0_2 s3_2; intro e_4 s3_4
 refine then_n <| aw_seq <| aw_seq <| at_ <| ar (ro_move s3_4) rfl <| ar (ro_call (evL_cons up_h (evL_cons ev_f evL_nil)) rfl (hi) z22_hcf108) rfl <| ar (ro_assign up_h) rfl <| ae2 (up_m rfl (u2 rfl s3_4)) up_h ?_; clear s3_4; intro e_5 s3_5 s4_5
 refine then_n <| aw_seq <| at_ <| ar (ro_move s4_5) rfl <| ar (ro_geq up_h ev_c) rfl <| ae3 (u2 rfl s3_5) (u2 rfl s4_5) up_h ?_; clear s3_5 s4_5; intro e_6 s3_6 s4_6 s29_6
 refine then_n <| aw_case s29_6 (fun hq_7 => ?_) (fun hq_7 => ?_)
 ·replace hq_7 := bt hq_7
  refine at_ <| ar (ro_move s3_6) rfl <| ar (ro_move (up_m rfl s4_6)) rfl <| ar (ro_sshi (up_m rfl up_h) up_h qun9 (by omega) (by omega)) rfl ?_
  refine ar (ro_assign up_h) rfl <| ae1 up_h ?_; clear s29_6 s3_6 s4_6; intro e_8 s3_8
  refine then_n <| aw_seq <| at_ <| ar (ro_move s3_8) rfl <| ar (ro_assign up_h) rfl <| ae1 up_h ?_; clear s3_8; intro e_9 s2_9
  refine then_n <| aw_ret <| muQ_eq (.inr rfl) [1] ml_3 mo0_3 (by decide) rfl (resM1 (by kernel_rfl) (resV_tmp s2_9)) (emb_ob mo1_3 ?_ .nil) ?_
  all_goals (first | rfl | (rw [wrd_ext _ (by omega)]; rfl) | (simp only [nxtW]; rw [wrd_all _ (by omega)]; rfl) | (simp only [scnA, pekS, posW, bs_size] <;> (rw [show ((l.length : Int) - (rstW l s.a).length) = ((l.length - (rstW l s.a).length : Nat) : Int) by omega]; rfl)))
 replace hq_7 := bf hq_7
 refine aw_skip <| then_n <| aw_seq <| at_ <| ar (ro_move s3_6) rfl <| ar (ro_assign up_h) rfl <| ae1 up_h ?_; clear s29_6 s3_6 s4_6; intro e_10 s2_10
 refine then_n <| aw_ret <| muQ_eq (.inr rfl) [1] ml_3 mo0_3 (by decide) rfl (resM1 (by kernel_rfl) (resV_tmp s2_10)) (emb_ob mo1_3 ?_ .nil) ?_
 all_goals (first | rfl | (rw [wrd_ext _ (by omega)]; rfl) | (simp only [nxtW]; rw [wrd_all _ (by omega)]; rfl) | (simp only [scnA, pekS, posW, bs_size] <;> (rw [show ((l.length : Int) - (rstW l s.a).length) = ((l.length - (rstW l s.a).length : Nat) : Int) by omega]; rfl)))
set_option maxRecDepth 100000 in
set_option maxHeartbeats 4000000 in
theorem take_name : FnMu Tryz.prog [] 100 [.ptr 1 0, .v (.func (.func 101) #[] #[]), iA 4] [.box 99 (scnA l s)] (.v (.string (bs (nxtW l s.a)))) [.box 99 (scnA l (takS l s (isNameB (bs (nxtW l s.a))) 4))] := by
 have h1 := rstW_len l s.a
 have h2 := nxtW_len l s.a
 have h3 := posW_le l s.a
 have hz : (bs (nxtW l s.a)).size = (nxtW l s.a).length := rfl
 have hp : (pekS l s).a = posW l s.a := rfl
 have f1 : (failS (pekS l s) (pekS l s).en 6).a = posW l s.a := fail_a _ _ _
 have f2 : (failS (pekS l s) ((pekS l s).a + 1) 4).a = posW l s.a := fail_a _ _ _
 refine fnMu_of (fn := Tryz.f100) [] 50 (by kernel_rfl) rfl (by kernel_rfl) (Nat.le_of_ble_eq_true rfl) ?_
 intro e_0 m_0 hA hm_0
 have s0_0 : evA e_0 (.tmp 0) = _ := hA 0 _ rfl
 have s1_0 : evA e_0 (.tmp 1) = _ := hA 1 _ rfl
 have s2_0 : evA e_0 (.tmp 2) = _ := hA 2 _ rfl
 have ml_0 : m_0.length = 2 := by rw [hm_0]; rfl
 have mo0_0 := m_in0 hm_0
 have mo1_0 := m_in1 hm_0
 clear hA hm_0
 refine aw_seq <| at_ <| ar (ro_assign ev_c) rfl <| ae3 (up_m rfl s0_0) (up_m rfl s1_0) (up_m rfl s2_0) ?_; clear s0_0 s1_0 s2_0; intro e_1 s0_1 s1_1 s2_1
 refine then_n <| aw_seq <| at_ <| ar (ro_move s0_1) rfl <| al_stm (st_muE (st_mu' (peek_ok l s hl ha) [1] ml_0 (evL_cons up_h evL_nil) (by first | exact .nil | exact .refl mo0_0 | exact .at_ mo0_0 (by simp [*])) (by decide) (.ob mo1_0 .nil) rfl qhcf42) (rn_ro rfl)) trivial rfl (fun m_2 hm_2 => ?_)
 have mo1_2 : m_2[1]? = some _ := m_ups_t hm_2 (Nat.le_of_ble_eq_true rfl) (by decide) (lt_cons mo1_0 lt_nil) 0 rfl rfl
 (try simp only [Ob.rn, rn, rn.rnL, rho, List.length_cons, List.length_nil, List.getElem?_cons_zero, List.getElem?_cons_succ, List.getElem?_nil, Nat.reduceAdd, Nat.reduceSub, Nat.add_zero, Nat.sub_self, scnA] at mo1_2)
 have mo0_2 := m_ups_o hm_2 (Nat.le_of_ble_eq_true rfl) mo0_0 (by decide)
 have ml_2 : _ = 2 := m_ups_l hm_2 ml_0 0 rfl
 clear hm_2 mo0_0 mo1_0 ml_0
 refine ar (ro_assign up_h) rfl <| ae4 (up_m rfl (u2 rfl s0_1)) (up_m rfl (u2 rfl s1_1)) (up_m rfl (u2 rfl s2_1)) up_h ?_; clear s0_1 s1_1 s2_1; intro e_3 s0_3 s1_3 s2_3 s7_3
 refine then_n <| aw_seq <| aw_block <| aw_seq <| at_ <| ar (ro_move s7_3) rfl <| ar (ro_seql up_h ev_c) rfl <| ar (ro_assign up_h) rfl <| ae5 (up_m rfl (u2 rfl s0_3)) (up_m rfl (u2 rfl s1_3)) (up_m rfl (u2 rfl s2_3)) (up_m rfl (u2 rfl s7_3)) up_h ?_; clear s0_3 s1_3 s2_3 s7_3; intro e_4 s0_4 s1_4 s2_4 s7_4 s10_4
 refine then_n <| aw_case s10_4 (fun hq_5 => ?_) (fun hq_5 => ?_)
 ·skip
  refine at_ <| ar (ro_move s0_4) rfl <| ar (ro_move (up_m rfl s0_4)) rfl <| ar (ro_nilP up_h) rfl <| ar (ro_fld_ptr qfl99_3 rfl up_h) rfl <| ar (ro_eq (ro_ld_ptr z22_ty3 rfl mo1_2 up_h (nle rfl)) (by simp only [pS, Value.cells, Nat.reduceAdd, scnA] <;> rfl)) rfl ?_
  refine al_stm (st_muE (st_mu' (fail_ok l (pekS l s) hl (pekS l s).en 6) [1] ml_2 (evL_cons (u4 rfl up_h) (evL_cons up_h (evL_cons ev_c evL_nil))) (by first | exact .nil | exact .refl mo0_2 | exact .at_ mo0_2 (by simp [*])) (by decide) (.ob mo1_2 .nil) rfl qhcf147) (rn_ro rfl)) trivial rfl (fun m_6 hm_6 => ?_)
  have mo1_6 : m_6[1]? = some _ := m_ups_t hm_6 (Nat.le_of_ble_eq_true rfl) (by decide) (lt_cons mo1_2 lt_nil) 0 rfl rfl
  (try simp only [Ob.rn, rn, rn.rnL, rho, List.length_cons, List.length_nil, List.getElem?_cons_zero, List.getElem?_cons_succ, List.getElem?_nil, Nat.reduceAdd, Nat.reduceSub, Nat.add_zero, Nat.sub_self, scnA] at mo1_6)
  have mo0_6 := m_ups_o hm_6 (Nat.le_of_ble_eq_true rfl) mo0_2 (by decide)
  have ml_6 : _ = 2 := m_ups_l hm_6 ml_2 0 rfl
  clear hm_6 mo1_2 mo0_2 ml_2
  refine ae2 (u2 rfl (u4 rfl s0_4)) (u2 rfl (u4 rfl s7_4)) ?_; clear s0_4 s10_4 s1_4 s2_4 s7_4; intro e_7 s0_7 s7_7
  refine block_n <| then_n <| aw_seq <| at_ <| ar (ro_move s0_7) rfl <| ar (ro_nilP up_h) rfl <| ar (ro_fld_ptr qfl99_1 rfl up_h) rfl <| ar (ro_eq (ro_ld_ptr z22_ty3 rfl mo1_6 up_h (nle rfl)) (by simp only [pS, Value.cells, Nat.reduceAdd, scnA] <;> rfl)) rfl ?_
  refine ar (ro_move (u4 rfl s7_7)) rfl <| ar (ro_len_str up_h rfl qun9) rfl ?_
  (refine ar (ro_add' (u2 rfl up_h) up_h ?_) rfl ?_; · (unfold In64; omega))
  refine ar (ro_nilP (u2 rfl (u4 rfl up_h))) rfl <| ar (ro_fld_ptr qfl99_1 rfl up_h) rfl <| al_stm (st_store up_h (u2 rfl up_h) rfl rfl mo1_6 qsz3 rfl (nle rfl)) trivial rfl (fun m_8 hm_8 => ?_)
  have mo1_8 := m_set hm_8 mo1_6
  simp only [pS, Value.cells, Nat.reduceAdd, scnA] at mo1_8
  have mo0_8 := m_set_o hm_8 mo0_6 (by decide)
  have ml_8 := m_set_l hm_8 ml_6
  clear hm_8 mo1_6 mo0_6
  refine ae2 (up_n (up_m rfl (u8 rfl s0_7))) (up_n (up_m rfl (u8 rfl s7_7))) ?_; clear s0_7 s7_7; intro e_9 s0_9 s7_9
  refine then_n <| aw_seq <| at_ <| ar (ro_move s0_9) rfl <| ar (ro_move (up_m rfl s0_9)) rfl <| ar (ro_nilP up_h) rfl <| ar (ro_fld_ptr qfl99_1 rfl up_h) rfl <| ar (ro_eq (ro_ld_ptr z22_ty3 rfl mo1_8 up_h (nle rfl)) (by simp only [pS, Value.cells, Nat.reduceAdd, scnA] <;> rfl)) rfl ?_
  (refine ar (ro_add' up_h ev_c ?_) rfl ?_; · (unfold In64; omega))
  refine ar (ro_nilP (up_m rfl (u4 rfl up_h))) rfl <| ar (ro_fld_ptr qfl99_3 rfl up_h) rfl <| al_stm (st_store up_h (u2 rfl up_h) rfl rfl mo1_8 qsz3 rfl (nle rfl)) trivial rfl (fun m_10 hm_10 => ?_)
  have mo1_10 := m_set hm_10 mo1_8
  simp only [pS, Value.cells, Nat.reduceAdd, scnA] at mo1_10
  have mo0_10 := m_set_o hm_10 mo0_8 (by decide)
  have ml_10 := m_set_l hm_10 ml_8
  clear hm_10 mo1_8 mo0_8
  refine ae1 (up_n (u8 rfl s7_9)) ?_; clear s0_9 s7_9; intro e_11 s7_11
  refine then_n <| aw_seq <| at_ <| ar (ro_move s7_11) rfl <| ar (ro_assign up_h) rfl <| ae1 up_h ?_; clear s7_11; intro e_12 s6_12
  refine then_n <| aw_ret <| muQ_eq (.inr rfl) [1] ml_10 mo0_10 (by decide) rfl (resM1 (by kernel_rfl) (resV_tmp s6_12)) (emb_ob mo1_10 ?_ .nil) ?_
  all_goals (first | rfl | (simp_all [takS, scnA, bs_toList]; done) | (simp_all [takS, scnA, bs_toList]; rfl))
 refine aw_seq <| at_ <| ar (ro_move s1_4) rfl <| ar (ro_move (up_m rfl s7_4)) rfl <| ar (ro_callf (up_m rfl up_h) (evL_cons up_h evL_nil) rfl (isName_ok _ (by rw [hz]; omega)) qhcf101) rfl ?_
 refine ar (ro_not up_h) rfl <| ar (ro_assign up_h) rfl <| ae4 (up_m rfl (u4 rfl s0_4)) (up_m rfl (u4 rfl s2_4)) (up_m rfl (u4 rfl s7_4)) up_h ?_; clear s0_4 s10_4 s1_4 s2_4 s7_4; intro e_13 s0_13 s2_13 s7_13 s19_13
 refine then_n <| aw_case s19_13 (fun hq_14 => ?_) (fun hq_14 => ?_)
 ·replace hq_14 := bt' hq_14
  refine at_ <| ar (ro_move s0_13) rfl <| ar (ro_move (up_m rfl s0_13)) rfl <| ar (ro_nilP up_h) rfl <| ar (ro_fld_ptr qfl99_1 rfl up_h) rfl <| ar (ro_eq (ro_ld_ptr z22_ty3 rfl mo1_2 up_h (nle rfl)) (by simp only [pS, Value.cells, Nat.reduceAdd, scnA] <;> rfl)) rfl ?_
  (refine ar (ro_add' up_h ev_c ?_) rfl ?_; · (unfold In64; omega))
  refine ar (ro_move (u2 rfl (u4 rfl s2_13))) rfl <| al_stm (st_muE (st_mu' (fail_ok l (pekS l s) hl ((pekS l s).a + 1) 4) [1] ml_2 (evL_cons (u2 rfl (u4 rfl up_h)) (evL_cons (up_m rfl up_h) (evL_cons up_h evL_nil))) (by first | exact .nil | exact .refl mo0_2 | exact .at_ mo0_2 (by simp [*])) (by decide) (.ob mo1_2 .nil) rfl qhcf147) (rn_ro rfl)) trivial rfl (fun m_15 hm_15 => ?_)
  have mo1_15 : m_15[1]? = some _ := m_ups_t hm_15 (Nat.le_of_ble_eq_true rfl) (by decide) (lt_cons mo1_2 lt_nil) 0 rfl rfl
  (try simp only [Ob.rn, rn, rn.rnL, rho, List.length_cons, List.length_nil, List.getElem?_cons_zero, List.getElem?_cons_succ, List.getElem?_nil, Nat.reduceAdd, Nat.reduceSub, Nat.add_zero, Nat.sub_self, scnA] at mo1_15)
  have mo0_15 := m_ups_o hm_15 (Nat.le_of_ble_eq_true rfl) mo0_2 (by decide)
  have ml_15 : _ = 2 := m_ups_l hm_15 ml_2 0 rfl
  clear hm_15 mo1_2 mo0_2 ml_2
  refine ae2 (u8 rfl s0_13) (u8 rfl s7_13) ?_; clear s0_13 s19_13 s2_13 s7_13; intro e_16 s0_16 s7_16
  refine block_n <| then_n <| aw_seq <| at_ <| ar (ro_move s0_16) rfl <| ar (ro_nilP up_h) rfl <| ar (ro_fld_ptr qfl99_1 rfl up_h) rfl <| ar (ro_eq (ro_ld_ptr z22_ty3 rfl mo1_15 up_h (nle rfl)) (by simp only [pS, Value.cells, Nat.reduceAdd, scnA] <;> rfl)) rfl ?_
  refine ar (ro_move (u4 rfl s7_16)) rfl <| ar (ro_len_str up_h rfl qun9) rfl ?_
  (refine ar (ro_add' (u2 rfl up_h) up_h ?_) rfl ?_; · (unfold In64; omega))
  refine ar (ro_nilP (u2 rfl (u4 rfl up_h))) rfl <| ar (ro_fld_ptr qfl99_1 rfl up_h) rfl <| al_stm (st_store up_h (u2 rfl up_h) rfl rfl mo1_15 qsz3 rfl (nle rfl)) trivial rfl (fun m_17 hm_17 => ?_)
  have mo1_17 := m_set hm_17 mo1_15
  simp only [pS, Value.cells, Nat.reduceAdd, scnA] at mo1_17
  have mo0_17 := m_set_o hm_17 mo0_15 (by decide)
  have ml_17 := m_set_l hm_17 ml_15
  clear hm_17 mo1_15 mo0_15
  refine ae2 (up_n (up_m rfl (u8 rfl s0_16))) (up_n (up_m rfl (u8 rfl s7_16))) ?_; clear s0_16 s7_16; intro e_18 s0_18 s7_18
  refine then_n <| aw_seq <| at_ <| ar (ro_move s0_18) rfl <| ar (ro_move (up_m rfl s0_18)) rfl <| ar (ro_nilP up_h) rfl <| ar (ro_fld_ptr qfl99_1 rfl up_h) rfl <| ar (ro_eq (ro_ld_ptr z22_ty3 rfl mo1_17 up_h (nle rfl)) (by simp only [pS, Value.cells, Nat.reduceAdd, scnA] <;> rfl)) rfl ?_
  (refine ar (ro_add' up_h ev_c ?_) rfl ?_; · (unfold In64; omega))
  refine ar (ro_nilP (up_m rfl (u4 rfl up_h))) rfl <| ar (ro_fld_ptr qfl99_3 rfl up_h) rfl <| al_stm (st_store up_h (u2 rfl up_h) rfl rfl mo1_17 qsz3 rfl (nle rfl)) trivial rfl (fun m_19 hm_19 => ?_)
  have mo1_19 := m_set hm_19 mo1_17
  simp only [pS, Value.cells, Nat.reduceAdd, scnA] at mo1_19
  have mo0_19 := m_set_o hm_19 mo0_17 (by decide)
  have ml_19 := m_set_l hm_19 ml_17
  clear hm_19 mo1_17 mo0_17
  refine ae1 (up_n (u8 rfl s7_18)) ?_; clear s0_18 s7_18; intro e_20 s7_20
  refine then_n <| aw_seq <| at_ <| ar (ro_move s7_20) rfl <| ar (ro_assign up_h) rfl <| ae1 up_h ?_; clear s7_20; intro e_21 s6_21
  refine then_n <| aw_ret <| muQ_eq (.inr rfl) [1] ml_19 mo0_19 (by decide) rfl (resM1 (by kernel_rfl) (resV_tmp s6_21)) (emb_ob mo1_19 ?_ .nil) ?_
  all_goals (first | rfl | (simp_all [takS, scnA, bs_toList]; done) | (simp_all [takS, scnA, bs_toList]; rfl))
 replace hq_14 := bf' hq_14
 refine aw_skip <| block_n <| then_n <| aw_seq <| at_ <| ar (ro_move s0_13) rfl <| ar (ro_nilP up_h) rfl <| ar (ro_fld_ptr qfl99_1 rfl up_h) rfl <| ar (ro_eq (ro_ld_ptr z22_ty3 rfl mo1_2 up_h (nle rfl)) (by simp only [pS, Value.cells, Nat.reduceAdd, scnA] <;> rfl)) rfl ?_
 refine ar (ro_move (u4 rfl s7_13)) rfl <| ar (ro_len_str up_h rfl qun9) rfl ?_
 (refine ar (ro_add' (u2 rfl up_h) up_h ?_) rfl ?_; · (unfold In64; omega))
 refine ar (ro_nilP (u2 rfl (u4 rfl up_h))) rfl <| ar (ro_fld_ptr qfl99_1 rfl up_h) rfl <| al_stm (st_store up_h (u2 rfl up_h) rfl rfl mo1_2 qsz3 rfl (nle rfl)) trivial rfl (fun m_22 hm_22 => ?_)
 have mo1_22 := m_set hm_22 mo1_2
 simp only [pS, Value.cells, Nat.reduceAdd, scnA] at mo1_22
 have mo0_22 := m_set_o hm_22 mo0_2 (by decide)
 have ml_22 := m_set_l hm_22 ml_2
 clear hm_22 mo1_2 mo0_2
 refine ae2 (up_n (up_m rfl (u8 rfl s0_13))) (up_n (up_m rfl (u8 rfl s7_13))) ?_; clear s0_13 s19_13 s2_13 s7_13; intro e_23 s0_23 s7_23
 refine then_n <| aw_seq <| at_ <| ar (ro_move s0_23) rfl <| ar (ro_move (up_m rfl s0_23)) rfl <| ar (ro_nilP up_h) rfl <| ar (ro_fld_ptr qfl99_1 rfl up_h) rfl <| ar (ro_eq (ro_ld_ptr z22_ty3 rfl mo1_22 up_h (nle rfl)) (by simp only [pS, Value.cells, Nat.reduceAdd, scnA] <;> rfl)) rfl ?_
 (refine ar (ro_add' up_h ev_c ?_) rfl ?_; · (unfold In64; omega))
 refine ar (ro_nilP (up_m rfl (u4 rfl up_h))) rfl <| ar (ro_fld_ptr qfl99_3 rfl up_h) rfl <| al_stm (st_store up_h (u2 rfl up_h) rfl rfl mo1_22 qsz3 rfl (nle rfl)) trivial rfl (fun m_24 hm_24 => ?_)
 have mo1_24 := m_set hm_24 mo1_22
 simp only [pS, Value.cells, Nat.reduceAdd, scnA] at mo1_24
 have mo0_24 := m_set_o hm_24 mo0_22 (by decide)
 have ml_24 := m_set_l hm_24 ml_22
 clear hm_24 mo1_22 mo0_22
 refine ae1 (up_n (u8 rfl s7_23)) ?_; clear s0_23 s7_23; intro e_25 s7_25
 refine then_n <| aw_seq <| at_ <| ar (ro_move s7_25) rfl <| ar (ro_assign up_h) rfl <| ae1 up_h ?_; clear s7_25; intro e_26 s6_26
 refine then_n <| aw_ret <| muQ_eq (.inr rfl) [1] ml_24 mo0_24 (by decide) rfl (resM1 (by kernel_rfl) (resV_tmp s6_26)) (emb_ob mo1_24 ?_ .nil) ?_
 all_goals (first | rfl | (simp_all [takS, scnA, bs_toList]; done) | (simp_all [takS, scnA, bs_toList]; rfl))
set_option maxRecDepth 100000 in
set_option maxHeartbeats 4000000 in
theorem take_word (w : ByteArray) : FnMu Tryz.prog [] 100 [.ptr 1 0, .clo (.func 146) [] [.ptr 2 0], iA 7] [.box 99 (scnA l s), .box 9 [.v (.string w)]] (.v (.string (bs (nxtW l s.a)))) [.box 99 (scnA l (takS l s (nxtW l s.a == w.toList) 7)), .box 9 [.v (.string w)]] := by
 have h1 := rstW_len l s.a
 have h2 := nxtW_len l s.a
 have h3 := posW_le l s.a
 have hz : (bs (nxtW l s.a)).size = (nxtW l s.a).length := rfl
 have hp : (pekS l s).a = posW l s.a := rfl
 have f1 : (failS (pekS l s) (pekS l s).en 6).a = posW l s.a := fail_a _ _ _
 have f2 : (failS (pekS l s) ((pekS l s).a + 1) 7).a = posW l s.a := fail_a _ _ _
 refine fnMu_of (fn := Tryz.f100) [] 50 (by kernel_rfl) rfl (by kernel_rfl) (Nat.le_of_ble_eq_true rfl) ?_
 intro e_0 m_0 hA hm_0
 have s0_0 : evA e_0 (.tmp 0) = _ := hA 0 _ rfl
 have s1_0 : evA e_0 (.tmp 1) = _ := hA 1 _ rfl
 have s2_0 : evA e_0 (.tmp 2) = _ := hA 2 _ rfl
 have ml_0 : m_0.length = 3 := by rw [hm_0]; rfl
 have mo0_0 := m_in0 hm_0
 have mo1_0 := m_in1 hm_0
 have mo2_0 := m_in2 hm_0
 clear hA hm_0
 refine aw_seq <| at_ <| ar (ro_assign ev_c) rfl <| ae3 (up_m rfl s0_0) (up_m rfl s1_0) (up_m rfl s2_0) ?_; clear s0_0 s1_0 s2_0; intro e_1 s0_1 s1_1 s2_1
 refine then_n <| aw_seq <| at_ <| ar (ro_move s0_1) rfl <| al_stm (st_muE (st_mu' (peek_ok l s hl ha) [1] ml_0 (evL_cons up_h evL_nil) (by first | exact .nil | exact .refl mo0_0 | exact .at_ mo0_0 (by simp [*])) (by decide) (.ob mo1_0 .nil) rfl qhcf42) (rn_ro rfl)) trivial rfl (fun m_2 hm_2 => ?_)
 have mo1_2 : m_2[1]? = some _ := m_ups_t hm_2 (Nat.le_of_ble_eq_true rfl) (by decide) (lt_cons mo1_0 lt_nil) 0 rfl rfl
 (try simp only [Ob.rn, rn, rn.rnL, rho, List.length_cons, List.length_nil, List.getElem?_cons_zero, List.getElem?_cons_succ, List.getElem?_nil, Nat.reduceAdd, Nat.reduceSub, Nat.add_zero, Nat.sub_self, scnA] at mo1_2)
 have mo0_2 := m_ups_o hm_2 (Nat.le_of_ble_eq_true rfl) mo0_0 (by decide)
 have mo2_2 := m_ups_o hm_2 (Nat.le_of_ble_eq_true rfl) mo2_0 (by decide)
 have ml_2 : _ = 3 := m_ups_l hm_2 ml_0 0 rfl
 clear hm_2 mo0_0 mo1_0 mo2_0 ml_0
 refine ar (ro_assign up_h) rfl <| ae4 (up_m rfl (u2 rfl s0_1)) (up_m rfl (u2 rfl s1_1)) (up_m rfl (u2 rfl s2_1)) up_h ?_; clear s0_1 s1_1 s2_1; intro e_3 s0_3 s1_3 s2_3 s7_3
 refine then_n <| aw_seq <| aw_block <| aw_seq <| at_ <| ar (ro_move s7_3) rfl <| ar (ro_seql up_h ev_c) rfl <| ar (ro_assign up_h) rfl <| ae5 (up_m rfl (u2 rfl s0_3)) (up_m rfl (u2 rfl s1_3)) (up_m rfl (u2 rfl s2_3)) (up_m rfl (u2 rfl s7_3)) up_h ?_; clear s0_3 s1_3 s2_3 s7_3; intro e_4 s0_4 s1_4 s2_4 s7_4 s10_4
 refine then_n <| aw_case s10_4 (fun hq_5 => ?_) (fun hq_5 => ?_)
 ·skip
  refine at_ <| ar (ro_move s0_4) rfl <| ar (ro_move (up_m rfl s0_4)) rfl <| ar (ro_nilP up_h) rfl <| ar (ro_fld_ptr qfl99_3 rfl up_h) rfl <| ar (ro_eq (ro_ld_ptr z22_ty3 rfl mo1_2 up_h (nle rfl)) (by simp only [pS, Value.cells, Nat.reduceAdd, scnA] <;> rfl)) rfl ?_
  refine al_stm (st_muE (st_mu' (fail_ok l (pekS l s) hl (pekS l s).en 6) [1] ml_2 (evL_cons (u4 rfl up_h) (evL_cons up_h (evL_cons ev_c evL_nil))) (by first | exact .nil | exact .refl mo0_2 | exact .at_ mo0_2 (by simp [*])) (by decide) (.ob mo1_2 .nil) rfl qhcf147) (rn_ro rfl)) trivial rfl (fun m_6 hm_6 => ?_)
  have mo1_6 : m_6[1]? = some _ := m_ups_t hm_6 (Nat.le_of_ble_eq_true rfl) (by decide) (lt_cons mo1_2 lt_nil) 0 rfl rfl
  (try simp only [Ob.rn, rn, rn.rnL, rho, List.length_cons, List.length_nil, List.getElem?_cons_zero, List.getElem?_cons_succ, List.getElem?_nil, Nat.reduceAdd, Nat.reduceSub, Nat.add_zero, Nat.sub_self, scnA] at mo1_6)
  have mo0_6 := m_ups_o hm_6 (Nat.le_of_ble_eq_true rfl) mo0_2 (by decide)
  have mo2_6 := m_ups_o hm_6 (Nat.le_of_ble_eq_true rfl) mo2_2 (by decide)
  have ml_6 : _ = 3 := m_ups_l hm_6 ml_2 0 rfl
  clear hm_6 mo1_2 mo0_2 mo2_2 ml_2
  refine ae2 (u2 rfl (u4 rfl s0_4)) (u2 rfl (u4 rfl s7_4)) ?_; clear s0_4 s10_4 s1_4 s2_4 s7_4; intro e_7 s0_7 s7_7
  refine block_n <| then_n <| aw_seq <| at_ <| ar (ro_move s0_7) rfl <| ar (ro_nilP up_h) rfl <| ar (ro_fld_ptr qfl99_1 rfl up_h) rfl <| ar (ro_eq (ro_ld_ptr z22_ty3 rfl mo1_6 up_h (nle rfl)) (by simp only [pS, Value.cells, Nat.reduceAdd, scnA] <;> rfl)) rfl ?_
  refine ar (ro_move (u4 rfl s7_7)) rfl <| ar (ro_len_str up_h rfl qun9) rfl ?_
  (refine ar (ro_add' (u2 rfl up_h) up_h ?_) rfl ?_; · (unfold In64; omega))
  refine ar (ro_nilP (u2 rfl (u4 rfl up_h))) rfl <| ar (ro_fld_ptr qfl99_1 rfl up_h) rfl <| al_stm (st_store up_h (u2 rfl up_h) rfl rfl mo1_6 qsz3 rfl (nle rfl)) trivial rfl (fun m_8 hm_8 => ?_)
  have mo1_8 := m_set hm_8 mo1_6
  simp only [pS, Value.cells, Nat.reduceAdd, scnA] at mo1_8
  have mo0_8 := m_set_o hm_8 mo0_6 (by decide)
  have mo2_8 := m_set_o hm_8 mo2_6 (by decide)
  have ml_8 := m_set_l hm_8 ml_6
  clear hm_8 mo1_6 mo0_6 mo2_6
  refine ae2 (up_n (up_m rfl (u8 rfl s0_7))) (up_n (up_m rfl (u8 rfl s7_7))) ?_; clear s0_7 s7_7; intro e_9 s0_9 s7_9
  refine then_n <| aw_seq <| at_ <| ar (ro_move s0_9) rfl <| ar (ro_move (up_m rfl s0_9)) rfl <| ar (ro_nilP up_h) rfl <| ar (ro_fld_ptr qfl99_1 rfl up_h) rfl <| ar (ro_eq (ro_ld_ptr z22_ty3 rfl mo1_8 up_h (nle rfl)) (by simp only [pS, Value.cells, Nat.reduceAdd, scnA] <;> rfl)) rfl ?_
  (refine ar (ro_add' up_h ev_c ?_) rfl ?_; · (unfold In64; omega))
  refine ar (ro_nilP (up_m rfl (u4 rfl up_h))) rfl <| ar (ro_fld_ptr qfl99_3 rfl up_h) rfl <| al_stm (st_store up_h (u2 rfl up_h) rfl rfl mo1_8 qsz3 rfl (nle rfl)) trivial rfl (fun m_10 hm_10 => ?_)
  have mo1_10 := m_set hm_10 mo1_8
  simp only [pS, Value.cells, Nat.reduceAdd, scnA] at mo1_10
  have mo0_10 := m_set_o hm_10 mo0_8 (by decide)
  have mo2_10 := m_set_o hm_10 mo2_8 (by decide)
  have ml_10 := m_set_l hm_10 ml_8
  clear hm_10 mo1_8 mo0_8 mo2_8
  refine ae1 (up_n (u8 rfl s7_9)) ?_; clear s0_9 s7_9; intro e_11 s7_11
  refine then_n <| aw_seq <| at_ <| ar (ro_move s7_11) rfl <| ar (ro_assign up_h) rfl <| ae1 up_h ?_; clear s7_11; intro e_12 s6_12
  refine then_n <| aw_ret <| muQ_eq (.inr rfl) [1, 2] ml_10 mo0_10 (by decide) rfl (resM1 (by kernel_rfl) (resV_tmp s6_12)) (emb_ob mo1_10 ?_ (emb_ob mo2_10 ?_ .nil)) ?_
  all_goals (first | rfl | (simp_all [takS, scnA, bs_toList]; done) | (simp_all [takS, scnA, bs_toList]; rfl))
 refine aw_seq <| at_ <| ar (ro_move s1_4) rfl <| ar (ro_move (up_m rfl s7_4)) rfl <| al_stm (st_muE (st_muv (l := []) (k := [.ptr 1 0]) (args := [.v (.string (bs (nxtW l s.a)))]) (up_m rfl up_h) (isWord_ok (bs (nxtW l s.a)) w) [2] ml_2 (evL_cons up_h evL_nil) (by first | exact .nil | exact .refl mo0_2 | exact .at_ mo0_2 (by simp [*])) (by decide) (.ob mo2_2 .nil) rfl rfl rfl z22_hcf146) (rn_ro rfl)) trivial rfl (fun m_13 hm_13 => ?_)
 have mo2_13 : m_13[2]? = some _ := m_ups_t hm_13 (Nat.le_of_ble_eq_true rfl) (by decide) (lt_cons mo2_2 lt_nil) 0 rfl rfl
 (try simp only [Ob.rn, rn, rn.rnL, rho, List.length_cons, List.length_nil, List.getElem?_cons_zero, List.getElem?_cons_succ, List.getElem?_nil, Nat.reduceAdd, Nat.reduceSub, Nat.add_zero, Nat.sub_self, scnA] at mo2_13)
 have mo1_13 := m_ups_o hm_13 (Nat.le_of_ble_eq_true rfl) mo1_2 (by decide)
 have mo0_13 := m_ups_o hm_13 (Nat.le_of_ble_eq_true rfl) mo0_2 (by decide)
 have ml_13 : _ = 3 := m_ups_l hm_13 ml_2 0 rfl
 clear hm_13 mo1_2 mo0_2 mo2_2 ml_2
 refine ar (ro_not up_h) rfl <| ar (ro_assign up_h) rfl <| ae4 (up_m rfl (u4 rfl s0_4)) (up_m rfl (u4 rfl s2_4)) (up_m rfl (u4 rfl s7_4)) up_h ?_; clear s0_4 s10_4 s1_4 s2_4 s7_4; intro e_14 s0_14 s2_14 s7_14 s19_14
 refine then_n <| aw_case s19_14 (fun hq_15 => ?_) (fun hq_15 => ?_)
 ·replace hq_15 := bt' hq_15
  refine at_ <| ar (ro_move s0_14) rfl <| ar (ro_move (up_m rfl s0_14)) rfl <| ar (ro_nilP up_h) rfl <| ar (ro_fld_ptr qfl99_1 rfl up_h) rfl <| ar (ro_eq (ro_ld_ptr z22_ty3 rfl mo1_13 up_h (nle rfl)) (by simp only [pS, Value.cells, Nat.reduceAdd, scnA] <;> rfl)) rfl ?_
  (refine ar (ro_add' up_h ev_c ?_) rfl ?_; · (unfold In64; omega))
  refine ar (ro_move (u2 rfl (u4 rfl s2_14))) rfl <| al_stm (st_muE (st_mu' (fail_ok l (pekS l s) hl ((pekS l s).a + 1) 7) [1] ml_13 (evL_cons (u2 rfl (u4 rfl up_h)) (evL_cons (up_m rfl up_h) (evL_cons up_h evL_nil))) (by first | exact .nil | exact .refl mo0_13 | exact .at_ mo0_13 (by simp [*])) (by decide) (.ob mo1_13 .nil) rfl qhcf147) (rn_ro rfl)) trivial rfl (fun m_16 hm_16 => ?_)
  have mo1_16 : m_16[1]? = some _ := m_ups_t hm_16 (Nat.le_of_ble_eq_true rfl) (by decide) (lt_cons mo1_13 lt_nil) 0 rfl rfl
  (try simp only [Ob.rn, rn, rn.rnL, rho, List.length_cons, List.length_nil, List.getElem?_cons_zero, List.getElem?_cons_succ, List.getElem?_nil, Nat.reduceAdd, Nat.reduceSub, Nat.add_zero, Nat.sub_self, scnA] at mo1_16)
  have mo2_16 := m_ups_o hm_16 (Nat.le_of_ble_eq_true rfl) mo2_13 (by decide)
  have mo0_16 := m_ups_o hm_16 (Nat.le_of_ble_eq_true rfl) mo0_13 (by decide)
  have ml_16 : _ = 3 := m_ups_l hm_16 ml_13 0 rfl
  clear hm_16 mo2_13 mo1_13 mo0_13 ml_13
  refine ae2 (u8 rfl s0_14) (u8 rfl s7_14) ?_; clear s0_14 s19_14 s2_14 s7_14; intro e_17 s0_17 s7_17
  refine block_n <| then_n <| aw_seq <| at_ <| ar (ro_move s0_17) rfl <| ar (ro_nilP up_h) rfl <| ar (ro_fld_ptr qfl99_1 rfl up_h) rfl <| ar (ro_eq (ro_ld_ptr z22_ty3 rfl mo1_16 up_h (nle rfl)) (by simp only [pS, Value.cells, Nat.reduceAdd, scnA] <;> rfl)) rfl ?_
  refine ar (ro_move (u4 rfl s7_17)) rfl <| ar (ro_len_str up_h rfl qun9) rfl ?_
  (refine ar (ro_add' (u2 rfl up_h) up_h ?_) rfl ?_; · (unfold In64; omega))
  refine ar (ro_nilP (u2 rfl (u4 rfl up_h))) rfl <| ar (ro_fld_ptr qfl99_1 rfl up_h) rfl <| al_stm (st_store up_h (u2 rfl up_h) rfl rfl mo1_16 qsz3 rfl (nle rfl)) trivial rfl (fun m_18 hm_18 => ?_)
  have mo1_18 := m_set hm_18 mo1_16
  simp only [pS, Value.cells, Nat.reduceAdd, scnA] at mo1_18
  have mo2_18 := m_set_o hm_18 mo2_16 (by decide)
  have mo0_18 := m_set_o hm_18 mo0_16 (by decide)
  have ml_18 := m_set_l hm_18 ml_16
  clear hm_18 mo1_16 mo2_16 mo0_16
  refine ae2 (up_n (up_m rfl (u8 rfl s0_17))) (up_n (up_m rfl (u8 rfl s7_17))) ?_; clear s0_17 s7_17; intro e_19 s0_19 s7_19
  refine then_n <| aw_seq <| at_ <| ar (ro_move s0_19) rfl <| ar (ro_move (up_m rfl s0_19)) rfl <| ar (ro_nilP up_h) rfl <| ar (ro_fld_ptr qfl99_1 rfl up_h) rfl <| ar (ro_eq (ro_ld_ptr z22_ty3 rfl mo1_18 up_h (nle rfl)) (by simp only [pS, Value.cells, Nat.reduceAdd, scnA] <;> rfl)) rfl ?_
  (refine ar (ro_add' up_h ev_c ?_) rfl ?_; · (unfold In64; omega))
  refine ar (ro_nilP (up_m rfl (u4 rfl up_h))) rfl <| ar (ro_fld_ptr qfl99_3 rfl up_h) rfl <| al_stm (st_store up_h (u2 rfl up_h) rfl rfl mo1_18 qsz3 rfl (nle rfl)) trivial rfl (fun m_20 hm_20 => ?_)
  have mo1_20 := m_set hm_20 mo1_18
  simp only [pS, Value.cells, Nat.reduceAdd, scnA] at mo1_20
  have mo2_20 := m_set_o hm_20 mo2_18 (by decide)
  have mo0_20 := m_set_o hm_20 mo0_18 (by decide)
  have ml_20 := m_set_l hm_20 ml_18
  clear hm_20 mo1_18 mo2_18 mo0_18
  refine ae1 (up_n (u8 rfl s7_19)) ?_; clear s0_19 s7_19; intro e_21 s7_21
  refine then_n <| aw_seq <| at_ <| ar (ro_move s7_21) rfl <| ar (ro_assign up_h) rfl <| ae1 up_h ?_; clear s7_21; intro e_22 s6_22
  refine then_n <| aw_ret <| muQ_eq (.inr rfl) [1, 2] ml_20 mo0_20 (by decide) rfl (resM1 (by kernel_rfl) (resV_tmp s6_22)) (emb_ob mo1_20 ?_ (emb_ob mo2_20 ?_ .nil)) ?_
  all_goals (first | rfl | (simp_all [takS, scnA, bs_toList]; done) | (simp_all [takS, scnA, bs_toList]; rfl))
 replace hq_15 := bf' hq_15
 refine aw_skip <| block_n <| then_n <| aw_seq <| at_ <| ar (ro_move s0_14) rfl <| ar (ro_nilP up_h) rfl <| ar (ro_fld_ptr qfl99_1 rfl up_h) rfl <| ar (ro_eq (ro_ld_ptr z22_ty3 rfl mo1_13 up_h (nle rfl)) (by simp only [pS, Value.cells, Nat.reduceAdd, scnA] <;> rfl)) rfl ?_
 refine ar (ro_move (u4 rfl s7_14)) rfl <| ar (ro_len_str up_h rfl qun9) rfl ?_
 (refine ar (ro_add' (u2 rfl up_h) up_h ?_) rfl ?_; · (unfold In64; omega))
 refine ar (ro_nilP (u2 rfl (u4 rfl up_h))) rfl <| ar (ro_fld_ptr qfl99_1 rfl up_h) rfl <| al_stm (st_store up_h (u2 rfl up_h) rfl rfl mo1_13 qsz3 rfl (nle rfl)) trivial rfl (fun m_23 hm_23 => ?_)
 have mo1_23 := m_set hm_23 mo1_13
 simp only [pS, Value.cells, Nat.reduceAdd, scnA] at mo1_23
 have mo2_23 := m_set_o hm_23 mo2_13 (by decide)
 have mo0_23 := m_set_o hm_23 mo0_13 (by decide)
 have ml_23 := m_set_l hm_23 ml_13
 clear hm_23 mo2_13 mo1_13 mo0_13
 refine ae2 (up_n (up_m rfl (u8 rfl s0_14))) (up_n (up_m rfl (u8 rfl s7_14))) ?_; clear s0_14 s19_14 s2_14 s7_14; intro e_24 s0_24 s7_24
 refine then_n <| aw_seq <| at_ <| ar (ro_move s0_24) rfl <| ar (ro_move (up_m rfl s0_24)) rfl <| ar (ro_nilP up_h) rfl <| ar (ro_fld_ptr qfl99_1 rfl up_h) rfl <| ar (ro_eq (ro_ld_ptr z22_ty3 rfl mo1_23 up_h (nle rfl)) (by simp only [pS, Value.cells, Nat.reduceAdd, scnA] <;> rfl)) rfl ?_
 (refine ar (ro_add' up_h ev_c ?_) rfl ?_; · (unfold In64; omega))
 refine ar (ro_nilP (up_m rfl (u4 rfl up_h))) rfl <| ar (ro_fld_ptr qfl99_3 rfl up_h) rfl <| al_stm (st_store up_h (u2 rfl up_h) rfl rfl mo1_23 qsz3 rfl (nle rfl)) trivial rfl (fun m_25 hm_25 => ?_)
 have mo1_25 := m_set hm_25 mo1_23
 simp only [pS, Value.cells, Nat.reduceAdd, scnA] at mo1_25
 have mo2_25 := m_set_o hm_25 mo2_23 (by decide)
 have mo0_25 := m_set_o hm_25 mo0_23 (by decide)
 have ml_25 := m_set_l hm_25 ml_23
 clear hm_25 mo1_23 mo2_23 mo0_23
 refine ae1 (up_n (u8 rfl s7_24)) ?_; clear s0_24 s7_24; intro e_26 s7_26
 refine then_n <| aw_seq <| at_ <| ar (ro_move s7_26) rfl <| ar (ro_assign up_h) rfl <| ae1 up_h ?_; clear s7_26; intro e_27 s6_27
 refine then_n <| aw_ret <| muQ_eq (.inr rfl) [1, 2] ml_25 mo0_25 (by decide) rfl (resM1 (by kernel_rfl) (resV_tmp s6_27)) (emb_ob mo1_25 ?_ (emb_ob mo2_25 ?_ .nil)) ?_
 all_goals (first | rfl | (simp_all [takS, scnA, bs_toList]; done) | (simp_all [takS, scnA, bs_toList]; rfl))
end
end Go.Proofs.YtjhcfpdgldpicaaGreatDoor
