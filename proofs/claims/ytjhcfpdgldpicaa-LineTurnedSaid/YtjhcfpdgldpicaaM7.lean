/- Texts of this claim, one behind the other: lemmas for the statement. -/
import Derived.Test.YtjhcfpdgldpicaaT0
import Derived.Test.YtjhcfpdgldpicaaM6
set_option linter.unusedSimpArgs false
set_option linter.unusedVariables false
namespace Go.Proofs.Ytjhcfpdgldpicaa
open Go Go.RowKit Go.Proofs
theorem y18_bz36 : (Try.prog.info? 36).bind (·.zero) = some (.agg #[.int .i64 0, .int .i64 0]) := by kernel_rfl
theorem y18_bu36 : Try.prog.underlying 36 = some (.struct (fsOf Try.prog 36)) := by kernel_rfl
theorem y18_bp36 : ∀ w, ((fsOf Try.prog 36).mapM fun f => Prod.mk f.offset <$> sizeOf f.type : Sem (Array (Nat × Nat))).run Try.prog w = .ok (#[(0, 1), (1, 1)]) w := fun _ => by kernel_rfl
theorem y18_ty36 : TyIs Try.prog 36 true 2 := ⟨by kernel_rfl, by kernel_rfl⟩
theorem tmod_lt {x y : Int} (hy : y ≠ 0) : (x.tmod y).natAbs < y.natAbs := by rw [Int.natAbs_tmod]; exact Nat.mod_lt _ (Int.natAbs_pos.2 hy)
theorem tmod_gcd (x y : Int) : Int.gcd y (x.tmod y) = Int.gcd x y := by
 unfold Int.gcd
 rw [Int.natAbs_tmod, Nat.gcd_comm y.natAbs, ← Nat.gcd_rec, Nat.gcd_comm]
theorem tdiv_bd {m : Int} (hm : -4000000000000000000 ≤ m ∧ m ≤ 4000000000000000000) (n : Int) : -4000000000000000000 ≤ m.tdiv n ∧ m.tdiv n ≤ 4000000000000000000 := by
 have := Int.natAbs_tdiv_le_natAbs m n
 omega
def fraN (n b : Int) : Int := n.tdiv (Int.gcd n b)
def fraD (n b : Int) : Int := b.tdiv (Int.gcd n b)
def frA (x y : Int) : AV := .agg [mA x, mA y]
set_option maxRecDepth 100000 in
set_option maxHeartbeats 4000000 in
theorem frac_ok (n b : Int) (hn : -4000000000000000000 ≤ n ∧ n ≤ 4000000000000000000) (hb : 0 < b ∧ b ≤ 4000000000000000000) : FnOk Try.prog 58 [mA n, mA b] (fun q => q = frA (fraN n b) (fraD n b)) := by
 refine fnOk_of (fn := Try.f58) 26 (by kernel_rfl) rfl (by kernel_rfl) (Nat.le_of_ble_eq_true rfl) ?_
 intro e_0 m_0 hA hm_0
 have s0_0 : evA e_0 (.tmp 0) = _ := hA 0 _ rfl
 have s1_0 : evA e_0 (.tmp 1) = _ := hA 1 _ rfl
 have ml_0 : m_0.length = 0 := by rw [hm_0]; rfl
 clear hA hm_0
 refine aw_seq <| at_ <| al_stm (st_alloc qaz36 rfl ml_0) trivial rfl (fun m_1 hm_1 => ?_)
 have mo0_1 := m_push hm_1 ml_0
 simp only [pS, Value.cells, Nat.reduceAdd] at mo0_1
 have ml_1 := m_push_l hm_1 ml_0
 have ml_1 : _ = 1 := ml_1
 clear hm_1
 refine ae3 (up_m rfl s0_0) (up_m rfl s1_0) up_h ?_; clear s0_0 s1_0; intro e_2 s0_2 s1_2 s4_2
 refine then_n <| aw_seq <| at_ <| ar (ro_move s0_2) rfl <| ar (ro_move (up_m rfl s1_2)) rfl <| ar (ro_assign (up_m rfl up_h)) rfl <| ar (ro_assign (up_m rfl up_h)) rfl <| ae5 (u4 rfl s0_2) (u4 rfl s1_2) (u4 rfl s4_2) (up_m rfl up_h) up_h ?_; clear s0_2 s1_2 s4_2; intro e_3 s0_3 s1_3 s4_3 s5_3 s6_3
 refine then_n <| aw_seq <| aw_block <| aw_loop (S := (Int × Int)) (fun s e mem => match s with | ⟨x, y⟩ => (evA e (.tmp 5) = .v (.int .i64 x)) ∧ (evA e (.tmp 6) = .v (.int .i64 y)) ∧ (evA e (.tmp 0) = evA e_3 (.tmp 0)) ∧ (evA e (.tmp 1) = evA e_3 (.tmp 1)) ∧ (evA e (.tmp 4) = evA e_3 (.tmp 4)) ∧ (mem[0]? = m_1[0]?) ∧ (mem.length = 1) ∧ (((-4000000000000000000 ≤ x ∧ x ≤ 4000000000000000000) ∧ (-4000000000000000000 ≤ y ∧ y ≤ 4000000000000000000) ∧ Int.gcd x y = Int.gcd n b))) (fun s => match s with | ⟨x, y⟩ => y.natAbs) ⟨_, _⟩ ⟨s5_3, s6_3, rfl, rfl, rfl, rfl, ml_1, ?_⟩ ?_
 ·(exact ⟨hn, by omega, rfl⟩)
 ·rintro ⟨x, y⟩ e_4 m_4 ⟨s5_4, s6_4, k0_4, k1_4, k4_4, mk0_4, ml_4, hinv⟩
  have s0_4 := k0_4.trans s0_3
  have s1_4 := k1_4.trans s1_3
  have s4_4 := k4_4.trans s4_3
  have mo0_4 := mk0_4.trans mo0_1
  (obtain ⟨p1, p2, p3⟩ := hinv)
  refine aw_seq <| aw_seq <| at_ <| ar (ro_move s6_4) rfl <| ar (ro_neq up_h ev_c) rfl <| ae6 (u2 rfl s0_4) (u2 rfl s1_4) (u2 rfl s4_4) (u2 rfl s5_4) (u2 rfl s6_4) up_h ?_; clear s0_4 s1_4 s4_4 s5_4 s6_4; intro e_5 s0_5 s1_5 s4_5 s5_5 s6_5 s10_5
  refine then_n <| aw_case s10_5 (fun hq_6 => ?_) (fun hq_6 => ?_)
  ·replace hq_6 := bnt hq_6
   refine aw_skip <| then_n <| aw_block <| aw_draw 6 (by kernel_rfl) (by kernel_rfl) (by kernel_rfl) (by kernel_rfl) ?_
   refine dr (ro_move s6_5) rfl <| dr (ro_move (up_m rfl s5_5)) rfl <| dr (ro_move (u2 rfl s6_5)) rfl <| dr (ro_rem (up_m rfl up_h) up_h (by omega)) rfl ?_
   refine dr (ro_assign (up_m rfl (u2 rfl up_h))) rfl <| dr (ro_assign (up_m rfl up_h)) rfl <| ds_nil <| ae5 (u2 rfl (u4 rfl s0_5)) (u2 rfl (u4 rfl s1_5)) (u2 rfl (u4 rfl s4_5)) (up_m rfl up_h) up_h ?_; clear s0_5 s10_5 s1_5 s4_5 s5_5 s6_5; intro e_7 s0_7 s1_7 s4_7 s5_7 s6_7
   refine block_n <| then_n <| ⟨⟨_, _⟩, ⟨s5_7, s6_7, (s0_7.trans s0_3.symm), (s1_7.trans s1_3.symm), (s4_7.trans s4_3.symm), (mo0_4.trans mo0_1.symm), ml_4, ?_⟩, ?_⟩
   ·(have hy : y ≠ 0 := (by assumption); have := tmod_lt (x := x) hy; refine ⟨p2, by omega, ?_⟩; rw [tmod_gcd, p3])
   ·((try dsimp only); (exact tmod_lt (by assumption)))
  replace hq_6 := bnf hq_6
  (have hy : y = 0 := (by omega); have hg : max x (-x) = (Int.gcd n b : Int) := (by rw [← p3, hy, Int.gcd_zero_right]; omega); have hgp : 0 < Int.gcd n b := Int.gcd_pos_of_ne_zero_right _ (by omega); have t1 := tdiv_bd hn (max x (-x)); have t2 := tdiv_bd (m := b) (by omega) (max x (-x)))
  refine aw_exit <| then_x <| then_x <| block_hit <| then_n <| aw_seq <| at_ <| ar (ro_move s5_5) rfl <| ar (ro_move (up_m rfl s5_5)) rfl ?_
  (refine ar (ro_neg' up_h ?_) rfl ?_; · (unfold In64; omega))
  refine ar (ro_max (u2 rfl up_h) up_h) rfl <| ar (ro_assign up_h) rfl <| ae4 (up_m rfl (u4 rfl s0_5)) (up_m rfl (u4 rfl s1_5)) (up_m rfl (u4 rfl s4_5)) up_h ?_; clear s0_5 s10_5 s1_5 s4_5 s5_5 s6_5; intro e_8 s0_8 s1_8 s4_8 s5_8
  refine then_n <| aw_seq <| aw_draw 7 (by kernel_rfl) (by kernel_rfl) (by kernel_rfl) (by kernel_rfl) ?_
  refine dr (ro_move s0_8) rfl <| dr (ro_move (up_m rfl s5_8)) rfl ?_
  (refine dr (ro_quo' (up_m rfl up_h) up_h (by omega) ?_) rfl ?_; · (unfold In64; omega))
  refine dr (ro_move (up_m rfl (u2 rfl s1_8))) rfl <| dr (ro_move (u4 rfl s5_8)) rfl ?_
  (refine dr (ro_quo' (up_m rfl up_h) up_h (by omega) ?_) rfl ?_; · (unfold In64; omega))
  refine dr (ro_build (evP_cons (up_m rfl (u2 rfl up_h)) (evP_cons up_h evP_nil)) y18_bz36 y18_bu36 y18_bp36 rfl) rfl ?_
  refine ds_nil <| al_stm (st_store (up_m rfl (u2 rfl (u4 rfl s4_8))) up_h rfl rfl mo0_4 qsz36 rfl (nle rfl)) trivial rfl (fun m_9 hm_9 => ?_)
  have mo0_9 := m_set hm_9 mo0_4
  simp only [pS, Value.cells, Nat.reduceAdd] at mo0_9
  have ml_9 := m_set_l hm_9 ml_4
  clear hm_9 mo0_4
  refine ae1 (up_n (up_m rfl (u2 rfl (u4 rfl s4_8)))) ?_; clear s0_8 s1_8 s4_8 s5_8; intro e_10 s4_10
  refine then_n <| aw_ret <| ret1 (.inr rfl) (by kernel_rfl) (resV_cell s4_10 mo0_9 y18_ty36 (nle rfl) (by simp)) (vw_r (.ro _ rfl)) ?_
  clear s4_10 mo0_9 ml_9
  (unfold frA fraN fraD; rw [hg]; rfl)
theorem mul_in {x y : Int} (X Y : Nat) (hx : x.natAbs ≤ X) (hy : y.natAbs ≤ Y) : (x * y).natAbs ≤ X * Y := by rw [Int.natAbs_mul]; exact Nat.mul_le_mul hx hy
theorem toNat_suc (n : Nat) : ((n : Int) + 1).toNat = n + 1 := by omega
def atI (l : Lin) (p : Int) : Nat := beaN l.bs p l.bs.length
def atD (l : Lin) (p : Int) : Int := p - plaP l.bs (atI l p)
theorem at_bd {l : Lin} (h : Rgt l) {p : Int} (hp : 0 ≤ p ∧ p ≤ plaP l.bs l.bs.length) : atI l p < l.bs.length ∧ 0 ≤ atD l p ∧ atD l p ≤ (l.bs.getD (atI l p) default).len := by
 obtain ⟨b1, b2, b3⟩ := beaN_at (bs := l.bs) hp.1 (n := l.bs.length) h.n0
 refine ⟨b1, by unfold atD atI; omega, ?_⟩
 unfold atD atI
 by_cases hn : beaN l.bs p l.bs.length + 1 < l.bs.length
 ·have := b3 _ (Nat.lt_succ_self _) hn
  simp only [plaP] at this; omega
 ·have he : l.bs.length = beaN l.bs p l.bs.length + 1 := by omega
  have h2 := hp.2
  have key : ∀ n b : Nat, n = b + 1 → plaP l.bs n = plaP l.bs b + (l.bs.getD b default).len := fun n b h => by subst h; rfl
  have := key _ _ he
  omega
theorem atX_ok (l : Lin) (h : Rgt l) (p : Int) (hp : 0 ≤ p ∧ p ≤ plaP l.bs l.bs.length) : FnOk Try.prog 64 [tkA l, mA p] (fun q => q = .tuple [mA (atI l p), mA (atD l p)]) := at_ok l h p hp.1 hp.2
theorem y21_sl22 : SlIs Try.prog 22 66 4 32 (.agg #[.int .i64 0, .int .i64 0, .int .i64 0, .int .i64 0]) := ⟨by kernel_rfl, by kernel_rfl, by kernel_rfl⟩
theorem y21_sl23 : SlIs Try.prog 23 69 2 16 (.agg #[.int .i64 0, .int .i64 0]) := ⟨by kernel_rfl, by kernel_rfl, by kernel_rfl⟩
theorem y21_ty22 : TyIs Try.prog 22 false 1 := ⟨by kernel_rfl, by kernel_rfl⟩
theorem y21_ty23 : TyIs Try.prog 23 false 1 := ⟨by kernel_rfl, by kernel_rfl⟩
theorem y21_ty3 : TyIs Try.prog 3 false 1 := ⟨by kernel_rfl, by kernel_rfl⟩
abbrev uA (n : Int) : AV := .v (.int .u64 n)
theorem mul_words (x y : Int) : x * y = (x / 4294967296) * (y / 4294967296) * 18446744073709551616 + (x / 4294967296) * (y % 4294967296) * 4294967296 + (x % 4294967296) * (y / 4294967296) * 4294967296 + (x % 4294967296) * (y % 4294967296) := by
 have h1 : x = (x / 4294967296) * 4294967296 + x % 4294967296 := by omega
 have h2 : y = (y / 4294967296) * 4294967296 + y % 4294967296 := by omega
 generalize x / 4294967296 = b at *
 generalize x % 4294967296 = a at *
 generalize y / 4294967296 = d at *
 generalize y % 4294967296 = c at *
 subst h1 h2
 have e1 : b * 4294967296 * (d * 4294967296) = b * d * 18446744073709551616 := by
  rw [Int.mul_assoc, ← Int.mul_assoc 4294967296 d, Int.mul_comm 4294967296 d, Int.mul_assoc d, ← Int.mul_assoc b d]; rfl
 have e2 : b * 4294967296 * c = b * c * 4294967296 := by rw [Int.mul_assoc, Int.mul_comm 4294967296 c, ← Int.mul_assoc]
 have e3 : a * (d * 4294967296) = a * d * 4294967296 := by rw [← Int.mul_assoc]
 rw [Int.add_mul, Int.mul_add, Int.mul_add, e1, e2, e3]
 omega
theorem prod_in {a c : Int} (h1 : 0 ≤ a ∧ a < 4294967296) (h2 : 0 ≤ c ∧ c < 4294967296) : 0 ≤ a * c ∧ a * c ≤ 18446744065119617025 := by
 have := mul_in 4294967295 4294967295 (x := a) (y := c) (by omega) (by omega)
 have := Int.mul_nonneg h1.1 h2.1
 omega
set_option maxRecDepth 100000 in
set_option maxHeartbeats 4000000 in
theorem mul64_ok (x y : Int) (hx : InU64 x) (hy : InU64 y) : FnOk Try.prog 61 [uA x, uA y] (fun q => q = .tuple [uA (x * y / 18446744073709551616), uA (x * y % 18446744073709551616)]) := by
 refine fnOk_of (fn := Try.f61) 51 (by kernel_rfl) rfl (by kernel_rfl) (Nat.le_of_ble_eq_true rfl) ?_
 intro e_0 m_0 hA hm_0
 have s0_0 : evA e_0 (.tmp 0) = _ := hA 0 _ rfl
 have s1_0 : evA e_0 (.tmp 1) = _ := hA 1 _ rfl
 have ml_0 : m_0.length = 0 := by rw [hm_0]; rfl
 clear hA hm_0
 have hx' := hx; have hy' := hy; unfold InU64 at hx' hy'; have q1 := prod_in (a := x % 4294967296) (c := y % 4294967296) (by omega) (by omega); have q2 := prod_in (a := x / 4294967296) (c := y % 4294967296) (by omega) (by omega); have q3 := prod_in (a := x % 4294967296) (c := y / 4294967296) (by omega) (by omega); have q4 := prod_in (a := x / 4294967296) (c := y / 4294967296) (by omega) (by omega); have hm := mul_words x y
 refine aw_seq <| at_ <| ar (ro_assign ev_c) rfl <| ar (ro_assign ev_c) rfl <| ae2 (u2 rfl s0_0) (u2 rfl s1_0) ?_; clear s0_0 s1_0; intro e_1 s0_1 s1_1
 refine then_n <| aw_seq <| at_ <| ar (ro_move s0_1) rfl ?_
 (refine ar (ro_andL (c := 4294967296) up_h ev_c 32 (by decide) (by decide) (by decide) ?_) rfl ?_; · ((first | unfold In64 | unfold InU64); omega))
 refine ar (ro_assign up_h) rfl <| ae3 (up_m rfl (u2 rfl s0_1)) (up_m rfl (u2 rfl s1_1)) up_h ?_; clear s0_1 s1_1; intro e_2 s0_2 s1_2 s6_2
 refine then_n <| aw_seq <| at_ <| ar (ro_move s0_2) rfl <| ar (ro_shr (c := 4294967296) up_h ev_c (by decide) (by decide)) rfl ?_
 refine ar (ro_assign up_h) rfl <| ae4 (up_m rfl (u2 rfl s0_2)) (up_m rfl (u2 rfl s1_2)) (up_m rfl (u2 rfl s6_2)) up_h ?_; clear s0_2 s1_2 s6_2; intro e_3 s0_3 s1_3 s6_3 s7_3
 refine then_n <| aw_seq <| at_ <| ar (ro_move s1_3) rfl ?_
 (refine ar (ro_andL (c := 4294967296) up_h ev_c 32 (by decide) (by decide) (by decide) ?_) rfl ?_; · ((first | unfold In64 | unfold InU64); omega))
 refine ar (ro_assign up_h) rfl <| ae5 (up_m rfl (u2 rfl s0_3)) (up_m rfl (u2 rfl s1_3)) (up_m rfl (u2 rfl s6_3)) (up_m rfl (u2 rfl s7_3)) up_h ?_; clear s0_3 s1_3 s6_3 s7_3; intro e_4 s0_4 s1_4 s6_4 s7_4 s8_4
 refine then_n <| aw_seq <| at_ <| ar (ro_move s1_4) rfl <| ar (ro_shr (c := 4294967296) up_h ev_c (by decide) (by decide)) rfl ?_
 refine ar (ro_assign up_h) rfl <| ae6 (up_m rfl (u2 rfl s0_4)) (up_m rfl (u2 rfl s1_4)) (up_m rfl (u2 rfl s6_4)) (up_m rfl (u2 rfl s7_4)) (up_m rfl (u2 rfl s8_4)) up_h ?_; clear s0_4 s1_4 s6_4 s7_4 s8_4; intro e_5 s0_5 s1_5 s6_5 s7_5 s8_5 s9_5
 refine then_n <| aw_seq <| at_ <| ar (ro_move s6_5) rfl <| ar (ro_move (up_m rfl s8_5)) rfl ?_
 (refine ar (ro_mulU (up_m rfl up_h) up_h ?_) rfl ?_; · ((first | unfold In64 | unfold InU64); omega))
 refine ar (ro_assign up_h) rfl <| ae7 (u4 rfl s0_5) (u4 rfl s1_5) (u4 rfl s6_5) (u4 rfl s7_5) (u4 rfl s8_5) (u4 rfl s9_5) up_h ?_; clear s0_5 s1_5 s6_5 s7_5 s8_5 s9_5; intro e_6 s0_6 s1_6 s6_6 s7_6 s8_6 s9_6 s10_6
 refine then_n <| aw_seq <| at_ <| ar (ro_move s7_6) rfl <| ar (ro_move (up_m rfl s8_6)) rfl ?_
 (refine ar (ro_mulU (up_m rfl up_h) up_h ?_) rfl ?_; · ((first | unfold In64 | unfold InU64); omega))
 refine ar (ro_move (up_m rfl (u2 rfl s10_6))) rfl <| ar (ro_shr (c := 4294967296) up_h ev_c (by decide) (by decide)) rfl ?_
 (refine ar (ro_addU (u2 rfl up_h) up_h ?_) rfl ?_; · ((first | unfold In64 | unfold InU64); omega))
 refine ar (ro_assign up_h) rfl <| ae6 (up_m rfl (u2 rfl (u4 rfl s0_6))) (up_m rfl (u2 rfl (u4 rfl s1_6))) (up_m rfl (u2 rfl (u4 rfl s6_6))) (up_m rfl (u2 rfl (u4 rfl s7_6))) (up_m rfl (u2 rfl (u4 rfl s9_6))) up_h ?_; clear s0_6 s10_6 s1_6 s6_6 s7_6 s8_6 s9_6; intro e_7 s0_7 s1_7 s6_7 s7_7 s9_7 s11_7
 refine then_n <| aw_seq <| at_ <| ar (ro_move s11_7) rfl ?_
 (refine ar (ro_andL (c := 4294967296) up_h ev_c 32 (by decide) (by decide) (by decide) ?_) rfl ?_; · ((first | unfold In64 | unfold InU64); omega))
 refine ar (ro_assign up_h) rfl <| ae7 (up_m rfl (u2 rfl s0_7)) (up_m rfl (u2 rfl s1_7)) (up_m rfl (u2 rfl s6_7)) (up_m rfl (u2 rfl s7_7)) (up_m rfl (u2 rfl s9_7)) (up_m rfl (u2 rfl s11_7)) up_h ?_; clear s0_7 s11_7 s1_7 s6_7 s7_7 s9_7; intro e_8 s0_8 s1_8 s6_8 s7_8 s9_8 s11_8 s12_8
 refine then_n <| aw_seq <| at_ <| ar (ro_move s11_8) rfl <| ar (ro_shr (c := 4294967296) up_h ev_c (by decide) (by decide)) rfl ?_
 refine ar (ro_assign up_h) rfl <| ae7 (up_m rfl (u2 rfl s0_8)) (up_m rfl (u2 rfl s1_8)) (up_m rfl (u2 rfl s6_8)) (up_m rfl (u2 rfl s7_8)) (up_m rfl (u2 rfl s9_8)) (up_m rfl (u2 rfl s12_8)) up_h ?_; clear s0_8 s11_8 s12_8 s1_8 s6_8 s7_8 s9_8; intro e_9 s0_9 s1_9 s6_9 s7_9 s9_9 s12_9 s13_9
 refine then_n <| aw_seq <| at_ <| ar (ro_move s12_9) rfl <| ar (ro_move (up_m rfl s6_9)) rfl <| ar (ro_move (u2 rfl s9_9)) rfl ?_
 (refine ar (ro_mulU (up_m rfl up_h) up_h ?_) rfl ?_; · ((first | unfold In64 | unfold InU64); omega))
 (refine ar (ro_addU (up_m rfl (u2 rfl up_h)) up_h ?_) rfl ?_; · ((first | unfold In64 | unfold InU64); omega))
 refine ar (ro_assign up_h) rfl <| ae6 (u2 rfl (u4 rfl s0_9)) (u2 rfl (u4 rfl s1_9)) (u2 rfl (u4 rfl s7_9)) (u2 rfl (u4 rfl s9_9)) up_h (u2 rfl (u4 rfl s13_9)) ?_; clear s0_9 s12_9 s13_9 s1_9 s6_9 s7_9 s9_9; intro e_10 s0_10 s1_10 s7_10 s9_10 s12_10 s13_10
 refine then_n <| aw_seq <| at_ <| ar (ro_move s7_10) rfl <| ar (ro_move (up_m rfl s9_10)) rfl ?_
 (refine ar (ro_mulU (up_m rfl up_h) up_h ?_) rfl ?_; · ((first | unfold In64 | unfold InU64); omega))
 refine ar (ro_move (up_m rfl (u2 rfl s13_10))) rfl ?_
 (refine ar (ro_addU (up_m rfl up_h) up_h ?_) rfl ?_; · ((first | unfold In64 | unfold InU64); omega))
 refine ar (ro_move (up_m rfl (u4 rfl s12_10))) rfl <| ar (ro_shr (c := 4294967296) up_h ev_c (by decide) (by decide)) rfl ?_
 (refine ar (ro_addU (u2 rfl up_h) up_h ?_) rfl ?_; · ((first | unfold In64 | unfold InU64); omega))
 refine ar (ro_assign up_h) rfl <| ae3 (up_m rfl (u8 rfl s0_10)) (up_m rfl (u8 rfl s1_10)) up_h ?_; clear s0_10 s12_10 s13_10 s1_10 s7_10 s9_10; intro e_11 s0_11 s1_11 s4_11
 refine then_n <| aw_seq <| at_ <| ar (ro_move s0_11) rfl <| ar (ro_move (up_m rfl s1_11)) rfl <| ar (ro_mul (up_m rfl up_h) up_h) rfl <| ar (ro_assign up_h) rfl <| ae2 (u4 rfl s4_11) up_h ?_; clear s0_11 s1_11 s4_11; intro e_12 s4_12 s5_12
 refine then_n <| aw_ret <| ret2 (.inr rfl) (by kernel_rfl) (resV_tmp s4_12) (resV_tmp s5_12) (.ro _ rfl) (.ro _ rfl) ?_
 clear s4_12 s5_12 ml_0
 (rw [wrapU_eq]; refine congrArg (fun a => AV.tuple [uA a, uA (x * y % 18446744073709551616)]) ?_; omega)
set_option maxRecDepth 100000 in
set_option maxHeartbeats 4000000 in
theorem div64_low (lo y : Int) (hl : InU64 lo) (hy : InU64 y) (h0 : 0 < y) : FnOk Try.prog 62 [uA 0, uA lo, uA y] (fun q => q = .tuple [uA (lo / y), uA (lo % y)]) := by
 refine fnOk_of (fn := Try.f62) 135 (by kernel_rfl) rfl (by kernel_rfl) (Nat.le_of_ble_eq_true rfl) ?_
 intro e_0 m_0 hA hm_0
 have s0_0 : evA e_0 (.tmp 0) = _ := hA 0 _ rfl
 have s1_0 : evA e_0 (.tmp 1) = _ := hA 1 _ rfl
 have s2_0 : evA e_0 (.tmp 2) = _ := hA 2 _ rfl
 have ml_0 : m_0.length = 0 := by rw [hm_0]; rfl
 clear hA hm_0
 have hl' := hl; have hy' := hy; unfold InU64 at hl' hy'
 refine aw_seq <| at_ <| ar (ro_assign ev_c) rfl <| ar (ro_assign ev_c) rfl <| ae3 (u2 rfl s0_0) (u2 rfl s1_0) (u2 rfl s2_0) ?_; clear s0_0 s1_0 s2_0; intro e_1 s0_1 s1_1 s2_1
 refine then_n <| aw_seq <| aw_seq <| at_ <| ar (ro_move s2_1) rfl <| ar (ro_eql up_h ev_c) rfl ?_
 refine ae4 (u2 rfl s0_1) (u2 rfl s1_1) (u2 rfl s2_1) up_h ?_; clear s0_1 s1_1 s2_1; intro e_2 s0_2 s1_2 s2_2 s20_2
 refine then_n <| aw_case s20_2 (fun hq_3 => ?_) (fun hq_3 => ?_)
 ·replace hq_3 := bt hq_3; exfalso; omega
 replace hq_3 := bf hq_3
 refine aw_skip <| then_n <| aw_seq <| aw_seq <| at_ <| ar (ro_move s2_2) rfl <| ar (ro_move (up_m rfl s0_2)) rfl <| ar (ro_leq (up_m rfl up_h) up_h) rfl <| ae4 (up_m rfl (u2 rfl s0_2)) (up_m rfl (u2 rfl s1_2)) (up_m rfl (u2 rfl s2_2)) up_h ?_; clear s0_2 s1_2 s20_2 s2_2; intro e_4 s0_4 s1_4 s2_4 s24_4
 refine then_n <| aw_case s24_4 (fun hq_5 => ?_) (fun hq_5 => ?_)
 ·replace hq_5 := bt hq_5; exfalso; omega
 replace hq_5 := bf hq_5
 refine aw_skip <| then_n <| aw_seq <| aw_seq <| at_ <| ar (ro_move s0_4) rfl <| ar (ro_eql up_h ev_c) rfl ?_
 refine ae4 (u2 rfl s0_4) (u2 rfl s1_4) (u2 rfl s2_4) up_h ?_; clear s0_4 s1_4 s24_4 s2_4; intro e_6 s0_6 s1_6 s2_6 s27_6
 refine then_n <| aw_case s27_6 (fun hq_7 => ?_) (fun hq_7 => ?_)
 ·replace hq_7 := bt hq_7
  refine aw_seq <| aw_draw 8 (by kernel_rfl) (by kernel_rfl) (by kernel_rfl) (by kernel_rfl) ?_
  refine dr (ro_move s1_6) rfl <| dr (ro_move (up_m rfl s2_6)) rfl ?_
  (refine dr (ro_quoU (up_m rfl up_h) up_h (by omega) ?_) rfl ?_; · ((first | unfold In64 | unfold InU64); omega))
  refine dr (ro_move (up_m rfl (u2 rfl s1_6))) rfl <| dr (ro_move (u4 rfl s2_6)) rfl ?_
  (refine dr (ro_remU (up_m rfl up_h) up_h (by omega) ?_) rfl ?_; · ((first | unfold In64 | unfold InU64); omega))
  refine dr (ro_assign (up_m rfl (u2 rfl up_h))) rfl <| dr (ro_assign (up_m rfl up_h)) rfl <| ds_nil <| ae2 (up_m rfl up_h) up_h ?_; clear s0_6 s1_6 s27_6 s2_6; intro e_8 s6_8 s7_8
  refine then_n <| aw_ret <| then_r <| ret2 (.inr rfl) (by kernel_rfl) (resV_tmp s6_8) (resV_tmp s7_8) (.ro _ rfl) (.ro _ rfl) ?_
  clear s6_8 s7_8 ml_0
  rfl
 ·replace hq_7 := bf hq_7; exfalso; omega
set_option maxRecDepth 100000 in
set_option maxHeartbeats 1000000 in
theorem compare_ok (m n : Int) : FnOk Try.prog 60 [mA m, mA n] (fun q => q = mA (if m < n then -1 else if n < m then 1 else 0)) := by
 refine fnOk_of (fn := Try.f60) 20 (by kernel_rfl) rfl (by kernel_rfl) (Nat.le_of_ble_eq_true rfl) ?_
 intro e_0 m_0 hA hm_0
 have s0_0 : evA e_0 (.tmp 0) = _ := hA 0 _ rfl
 have s1_0 : evA e_0 (.tmp 1) = _ := hA 1 _ rfl
 have ml_0 : m_0.length = 0 := by rw [hm_0]; rfl
 clear hA hm_0
 refine aw_seq <| at_ <| ar (ro_assign ev_c) rfl <| ae2 (up_m rfl s0_0) (up_m rfl s1_0) ?_; clear s0_0 s1_0; intro e_1 s0_1 s1_1
 refine then_n <| aw_seq <| at_ <| ar (ro_move s0_1) rfl <| ar (ro_call (evL_cons up_h evL_nil) rfl (cNaN_ok _) qhcf69) rfl <| ar (ro_assign up_h) rfl <| ae3 (up_m rfl (u2 rfl s0_1)) (up_m rfl (u2 rfl s1_1)) up_h ?_; clear s0_1 s1_1; intro e_2 s0_2 s1_2 s5_2
 refine then_n <| aw_seq <| at_ <| ar (ro_move s1_2) rfl <| ar (ro_call (evL_cons up_h evL_nil) rfl (cNaN_ok _) qhcf69) rfl <| ar (ro_assign up_h) rfl <| ae4 (up_m rfl (u2 rfl s0_2)) (up_m rfl (u2 rfl s1_2)) (up_m rfl (u2 rfl s5_2)) up_h ?_; clear s0_2 s1_2 s5_2; intro e_3 s0_3 s1_3 s5_3 s6_3
 refine then_n <| aw_seq <| aw_seq <| at_ <| ar (ro_move s5_3) rfl <| ae4 (up_m rfl s0_3) (up_m rfl s1_3) (up_m rfl s6_3) up_h ?_; clear s0_3 s1_3 s5_3 s6_3; intro e_4 s0_4 s1_4 s6_4 s11_4
 refine then_n <| aw_case s11_4 (fun hq_5 => ?_) (fun hq_5 => ?_)
 ·cases hq_5
 refine aw_skip <| then_n <| aw_seq <| aw_seq <| at_ <| ar (ro_move s6_4) rfl <| ae3 (up_m rfl s0_4) (up_m rfl s1_4) up_h ?_; clear s0_4 s11_4 s1_4 s6_4; intro e_10 s0_10 s1_10 s13_10
 refine then_n <| aw_case s13_10 (fun hq_11 => ?_) (fun hq_11 => ?_)
 ·cases hq_11
 refine aw_skip <| then_n <| aw_seq <| aw_seq <| at_ <| ar (ro_move s0_10) rfl <| ar (ro_move (up_m rfl s1_10)) rfl <| ar (ro_lss (up_m rfl up_h) up_h) rfl <| ae3 (up_m rfl (u2 rfl s0_10)) (up_m rfl (u2 rfl s1_10)) up_h ?_; clear s0_10 s13_10 s1_10; intro e_13 s0_13 s1_13 s16_13
 refine then_n <| aw_case s16_13 (fun hq_14 => ?_) (fun hq_14 => ?_)
 ·replace hq_14 := bt hq_14
  refine aw_seq <| at_ <| ar (ro_assign ev_c) rfl <| ae1 up_h ?_; clear s0_13 s16_13 s1_13; intro e_15 s4_15
  refine then_n <| aw_ret <| then_r <| ret1 (.inr rfl) (by kernel_rfl) (resV_tmp s4_15) (.ro _ rfl) ?_
  clear s4_15 ml_0
  (simp_all; try omega)
 replace hq_14 := bf hq_14
 refine aw_skip <| then_n <| aw_seq <| aw_seq <| at_ <| ar (ro_move s0_13) rfl <| ar (ro_move (up_m rfl s1_13)) rfl <| ar (ro_gtr (up_m rfl up_h) up_h) rfl <| ae1 up_h ?_; clear s0_13 s16_13 s1_13; intro e_16 s19_16
 refine then_n <| aw_case s19_16 (fun hq_17 => ?_) (fun hq_17 => ?_)
 ·replace hq_17 := bt hq_17
  refine aw_seq <| at_ <| ar (ro_assign ev_c) rfl <| ae1 up_h ?_; clear s19_16; intro e_18 s4_18
  refine then_n <| aw_ret <| then_r <| ret1 (.inr rfl) (by kernel_rfl) (resV_tmp s4_18) (.ro _ rfl) ?_
  clear s4_18 ml_0
  (simp_all; try omega)
 replace hq_17 := bf hq_17
 refine aw_skip <| then_n <| aw_seq <| at_ <| ar (ro_assign ev_c) rfl <| ae1 up_h ?_; clear s19_16; intro e_19 s4_19
 refine then_n <| aw_ret <| ret1 (.inr rfl) (by kernel_rfl) (resV_tmp s4_19) (.ro _ rfl) ?_
 clear s4_19 ml_0
 (simp_all; try omega)
set_option maxRecDepth 100000 in
set_option maxHeartbeats 1000000 in
theorem sideErr_ok (n : Int) : FnOk Try.prog 38 [mA n] (fun q => q = mA (unlessE (withinB n 0 5000) 2)) := by
 refine fnOk_of (fn := Try.f38) 6 (by kernel_rfl) rfl (by kernel_rfl) (Nat.le_of_ble_eq_true rfl) ?_
 intro e_0 m_0 hA hm_0
 have s0_0 : evA e_0 (.tmp 0) = _ := hA 0 _ rfl
 have ml_0 : m_0.length = 0 := by rw [hm_0]; rfl
 clear hA hm_0
 refine aw_seq <| at_ <| ar (ro_assign ev_c) rfl <| ae1 (up_m rfl s0_0) ?_; clear s0_0; intro e_1 s0_1
 refine then_n <| aw_seq <| at_ <| ar (ro_move s0_1) rfl <| ar (ro_call (evL_cons up_h (evL_cons ev_c (evL_cons ev_c evL_nil))) rfl (yWithin_ok _ _ _) qhcf57) rfl <| ar (ro_call (evL_cons up_h (evL_cons ev_c evL_nil)) rfl (yUnless_ok _ _) qhcf56) rfl <| ar (ro_assign up_h) rfl <| ae1 up_h ?_; clear s0_1; intro e_2 s2_2
 refine then_n <| aw_ret <| ret1 (.inr rfl) (by kernel_rfl) (resV_tmp s2_2) (.ro _ rfl) ?_
 clear s2_2 ml_0
 rfl
def benN (l : Lin) (j : Nat) : Int := ((l.js.getD (j + 1) default).acr - (l.js.getD j default).acr) * (l.bs.getD (j - 1) default).len - ((l.js.getD j default).acr - (l.js.getD (j - 1) default).acr) * (l.bs.getD j default).len
def benD (l : Lin) (j : Nat) : Int := (l.bs.getD (j - 1) default).len * (l.bs.getD j default).len
theorem toNat_pre (n : Nat) : ((n : Int) - 1).toNat = n - 1 := by omega
set_option maxRecDepth 100000 in
set_option maxHeartbeats 4000000 in
theorem bend_ok (l : Lin) (h : Rgt l) (j : Nat) (hj : 1 ≤ j ∧ j + 2 ≤ l.js.length) : FnOk Try.prog 59 [tkA l, mA j] (fun q => q = .tuple [mA (benN l j), mA (benD l j)]) := by
 refine fnOk_of (fn := Try.f59) 79 (by kernel_rfl) rfl (by kernel_rfl) (Nat.le_of_ble_eq_true rfl) ?_
 intro e_0 m_0 hA hm_0
 have s0_0 : evA e_0 (.tmp 0) = _ := hA 0 _ rfl
 have s1_0 : evA e_0 (.tmp 1) = _ := hA 1 _ rfl
 have ml_0 : m_0.length = 0 := by rw [hm_0]; rfl
 clear hA hm_0
 have hn1 := h.n1; have hn0 := h.n0; have hjs := h.js; have j1 := h.jnt (j - 1) (by omega); have j2 := h.jnt j (by omega); have j3 := h.jnt (j + 1) (by omega); have b1 := h.bea (j - 1) (by omega); have b2 := h.bea j (by omega); have m1 := mul_in (x := (l.js.getD (j + 1) default).acr - (l.js.getD j default).acr) (y := (l.bs.getD (j - 1) default).len) 40000 30000 (by omega) (by omega); have m2 := mul_in (x := (l.js.getD j default).acr - (l.js.getD (j - 1) default).acr) (y := (l.bs.getD j default).len) 40000 30000 (by omega) (by omega); have m3 := mul_in (x := (l.bs.getD (j - 1) default).len) (y := (l.bs.getD j default).len) 30000 30000 (by omega) (by omega)
 refine aw_seq <| at_ <| ar (ro_assign ev_c) rfl <| ar (ro_assign ev_c) rfl <| ae2 (u2 rfl s0_0) (u2 rfl s1_0) ?_; clear s0_0 s1_0; intro e_1 s0_1 s1_1
 refine then_n <| aw_seq <| aw_draw 21 (by kernel_rfl) (by kernel_rfl) (by kernel_rfl) (by kernel_rfl) ?_
 refine dr (ro_move s0_1) rfl <| dr (ro_nilR up_h) rfl <| dr (ro_eq (ro_fld_ref qfl83_0 rfl up_h) (by simp only [pS, Value.cells, Nat.reduceAdd, jnE, beE, Int.toNat_natCast, toNat_suc, toNat_pre] <;> rfl)) rfl ?_
 refine dr (ro_eq (ro_fld_ref qfl26_2 rfl up_h) (by simp only [pS, Value.cells, Nat.reduceAdd, jnE, beE, Int.toNat_natCast, toNat_suc, toNat_pre] <;> rfl)) rfl ?_
 refine dr (ro_eq (ro_ld_ref y21_ty23 rfl up_h (nle rfl)) (by simp only [pS, Value.cells, Nat.reduceAdd, jnE, beE, Int.toNat_natCast, toNat_suc, toNat_pre] <;> rfl)) rfl ?_
 refine dr (ro_move (up_m rfl (u4 rfl s1_1))) rfl ?_
 (refine dr (ro_sub' up_h ev_c ?_) rfl ?_; · (unfold In64; omega))
 refine dr (ro_eq (ro_ix y21_sl23 (u2 rfl up_h) up_h (by omega) (by first | (refine idx_map ?_; first | omega | (simp only [lnS]; omega)) | (refine idx_mapI ?_; first | omega | (simp only [lnS]; omega)) | (refine idx_mapN ?_; first | omega | (simp only [lnS]; omega)) | rfl)) (by simp only [pS, Value.cells, Nat.reduceAdd, jnE, beE, Int.toNat_natCast, toNat_suc, toNat_pre] <;> rfl)) rfl ?_
 refine dr (ro_eq (ro_fld_ref qfl69_0 rfl up_h) (by simp only [pS, Value.cells, Nat.reduceAdd, jnE, beE, Int.toNat_natCast, toNat_suc, toNat_pre] <;> rfl)) rfl ?_
 refine dr (ro_eq (ro_ld_ref y21_ty3 rfl up_h (nle rfl)) (by simp only [pS, Value.cells, Nat.reduceAdd, jnE, beE, Int.toNat_natCast, toNat_suc, toNat_pre] <;> rfl)) rfl ?_
 refine dr (ro_move (u2 rfl (u8 rfl s0_1))) rfl <| dr (ro_nilR up_h) rfl <| dr (ro_eq (ro_fld_ref qfl83_0 rfl up_h) (by simp only [pS, Value.cells, Nat.reduceAdd, jnE, beE, Int.toNat_natCast, toNat_suc, toNat_pre] <;> rfl)) rfl ?_
 refine dr (ro_eq (ro_fld_ref qfl26_2 rfl up_h) (by simp only [pS, Value.cells, Nat.reduceAdd, jnE, beE, Int.toNat_natCast, toNat_suc, toNat_pre] <;> rfl)) rfl ?_
 refine dr (ro_eq (ro_ld_ref y21_ty23 rfl up_h (nle rfl)) (by simp only [pS, Value.cells, Nat.reduceAdd, jnE, beE, Int.toNat_natCast, toNat_suc, toNat_pre] <;> rfl)) rfl ?_
 refine dr (ro_move (up_m rfl (u2 rfl (u4 rfl (u8 rfl s1_1))))) rfl <| dr (ro_eq (ro_ix y21_sl23 (up_m rfl up_h) up_h (by omega) (by first | (refine idx_map ?_; first | omega | (simp only [lnS]; omega)) | (refine idx_mapI ?_; first | omega | (simp only [lnS]; omega)) | (refine idx_mapN ?_; first | omega | (simp only [lnS]; omega)) | rfl)) (by simp only [pS, Value.cells, Nat.reduceAdd, jnE, beE, Int.toNat_natCast, toNat_suc, toNat_pre] <;> rfl)) rfl ?_
 refine dr (ro_eq (ro_fld_ref qfl69_0 rfl up_h) (by simp only [pS, Value.cells, Nat.reduceAdd, jnE, beE, Int.toNat_natCast, toNat_suc, toNat_pre] <;> rfl)) rfl ?_
 refine dr (ro_eq (ro_ld_ref y21_ty3 rfl up_h (nle rfl)) (by simp only [pS, Value.cells, Nat.reduceAdd, jnE, beE, Int.toNat_natCast, toNat_suc, toNat_pre] <;> rfl)) rfl ?_
 refine dr (ro_assign (up_m rfl (u8 rfl up_h))) rfl <| dr (ro_assign (up_m rfl up_h)) rfl <| ds_nil <| ae4 (up_m rfl (u4 rfl (u16 rfl s0_1))) (up_m rfl (u4 rfl (u16 rfl s1_1))) (up_m rfl up_h) up_h ?_; clear s0_1 s1_1; intro e_2 s0_2 s1_2 s6_2 s7_2
 refine then_n <| aw_seq <| aw_draw 21 (by kernel_rfl) (by kernel_rfl) (by kernel_rfl) (by kernel_rfl) ?_
 refine dr (ro_move s0_2) rfl <| dr (ro_nilR up_h) rfl <| dr (ro_eq (ro_fld_ref qfl83_0 rfl up_h) (by simp only [pS, Value.cells, Nat.reduceAdd, jnE, beE, Int.toNat_natCast, toNat_suc, toNat_pre] <;> rfl)) rfl ?_
 refine dr (ro_eq (ro_fld_ref qfl26_1 rfl up_h) (by simp only [pS, Value.cells, Nat.reduceAdd, jnE, beE, Int.toNat_natCast, toNat_suc, toNat_pre] <;> rfl)) rfl ?_
 refine dr (ro_eq (ro_ld_ref y21_ty22 rfl up_h (nle rfl)) (by simp only [pS, Value.cells, Nat.reduceAdd, jnE, beE, Int.toNat_natCast, toNat_suc, toNat_pre] <;> rfl)) rfl ?_
 refine dr (ro_move (up_m rfl (u4 rfl s1_2))) rfl <| dr (ro_eq (ro_ix y21_sl22 (up_m rfl up_h) up_h (by omega) (by first | (refine idx_map ?_; first | omega | (simp only [lnS]; omega)) | (refine idx_mapI ?_; first | omega | (simp only [lnS]; omega)) | (refine idx_mapN ?_; first | omega | (simp only [lnS]; omega)) | rfl)) (by simp only [pS, Value.cells, Nat.reduceAdd, jnE, beE, Int.toNat_natCast, toNat_suc, toNat_pre] <;> rfl)) rfl ?_
 refine dr (ro_eq (ro_fld_ref qfl66_0 rfl up_h) (by simp only [pS, Value.cells, Nat.reduceAdd, jnE, beE, Int.toNat_natCast, toNat_suc, toNat_pre] <;> rfl)) rfl ?_
 refine dr (ro_eq (ro_ld_ref y21_ty3 rfl up_h (nle rfl)) (by simp only [pS, Value.cells, Nat.reduceAdd, jnE, beE, Int.toNat_natCast, toNat_suc, toNat_pre] <;> rfl)) rfl ?_
 refine dr (ro_move (up_m rfl (u8 rfl s0_2))) rfl <| dr (ro_nilR up_h) rfl <| dr (ro_eq (ro_fld_ref qfl83_0 rfl up_h) (by simp only [pS, Value.cells, Nat.reduceAdd, jnE, beE, Int.toNat_natCast, toNat_suc, toNat_pre] <;> rfl)) rfl ?_
 refine dr (ro_eq (ro_fld_ref qfl26_1 rfl up_h) (by simp only [pS, Value.cells, Nat.reduceAdd, jnE, beE, Int.toNat_natCast, toNat_suc, toNat_pre] <;> rfl)) rfl ?_
 refine dr (ro_eq (ro_ld_ref y21_ty22 rfl up_h (nle rfl)) (by simp only [pS, Value.cells, Nat.reduceAdd, jnE, beE, Int.toNat_natCast, toNat_suc, toNat_pre] <;> rfl)) rfl ?_
 refine dr (ro_move (u2 rfl (u4 rfl (u8 rfl s1_2)))) rfl ?_
 (refine dr (ro_sub' up_h ev_c ?_) rfl ?_; · (unfold In64; omega))
 refine dr (ro_eq (ro_ix y21_sl22 (u2 rfl up_h) up_h (by omega) (by first | (refine idx_map ?_; first | omega | (simp only [lnS]; omega)) | (refine idx_mapI ?_; first | omega | (simp only [lnS]; omega)) | (refine idx_mapN ?_; first | omega | (simp only [lnS]; omega)) | rfl)) (by simp only [pS, Value.cells, Nat.reduceAdd, jnE, beE, Int.toNat_natCast, toNat_suc, toNat_pre] <;> rfl)) rfl ?_
 refine dr (ro_eq (ro_fld_ref qfl66_0 rfl up_h) (by simp only [pS, Value.cells, Nat.reduceAdd, jnE, beE, Int.toNat_natCast, toNat_suc, toNat_pre] <;> rfl)) rfl ?_
 refine dr (ro_eq (ro_ld_ref y21_ty3 rfl up_h (nle rfl)) (by simp only [pS, Value.cells, Nat.reduceAdd, jnE, beE, Int.toNat_natCast, toNat_suc, toNat_pre] <;> rfl)) rfl ?_
 (refine dr (ro_sub' (u2 rfl (u8 rfl up_h)) up_h ?_) rfl ?_; · (unfold In64; omega))
 refine dr (ro_assign up_h) rfl <| ds_nil <| ae5 (up_m rfl (u4 rfl (u16 rfl s0_2))) (up_m rfl (u4 rfl (u16 rfl s1_2))) (up_m rfl (u4 rfl (u16 rfl s6_2))) (up_m rfl (u4 rfl (u16 rfl s7_2))) up_h ?_; clear s0_2 s1_2 s6_2 s7_2; intro e_3 s0_3 s1_3 s6_3 s7_3 s8_3
 refine then_n <| aw_seq <| aw_draw 21 (by kernel_rfl) (by kernel_rfl) (by kernel_rfl) (by kernel_rfl) ?_
 refine dr (ro_move s0_3) rfl <| dr (ro_nilR up_h) rfl <| dr (ro_eq (ro_fld_ref qfl83_0 rfl up_h) (by simp only [pS, Value.cells, Nat.reduceAdd, jnE, beE, Int.toNat_natCast, toNat_suc, toNat_pre] <;> rfl)) rfl ?_
 refine dr (ro_eq (ro_fld_ref qfl26_1 rfl up_h) (by simp only [pS, Value.cells, Nat.reduceAdd, jnE, beE, Int.toNat_natCast, toNat_suc, toNat_pre] <;> rfl)) rfl ?_
 refine dr (ro_eq (ro_ld_ref y21_ty22 rfl up_h (nle rfl)) (by simp only [pS, Value.cells, Nat.reduceAdd, jnE, beE, Int.toNat_natCast, toNat_suc, toNat_pre] <;> rfl)) rfl ?_
 refine dr (ro_move (up_m rfl (u4 rfl s1_3))) rfl ?_
 (refine dr (ro_add' up_h ev_c ?_) rfl ?_; · (unfold In64; omega))
 refine dr (ro_eq (ro_ix y21_sl22 (u2 rfl up_h) up_h (by omega) (by refine idx_map ?_; first | omega | (simp only [lnS]; omega))) (by simp only [pS, Value.cells, Nat.reduceAdd, jnE, beE, Int.toNat_natCast, toNat_suc, toNat_pre] <;> rfl)) rfl ?_
 refine dr (ro_eq (ro_fld_ref qfl66_0 rfl up_h) (by simp only [pS, Value.cells, Nat.reduceAdd, jnE, beE, Int.toNat_natCast, toNat_suc, toNat_pre] <;> rfl)) rfl ?_
 refine dr (ro_eq (ro_ld_ref y21_ty3 rfl up_h (nle rfl)) (by simp only [pS, Value.cells, Nat.reduceAdd, jnE, beE, Int.toNat_natCast, toNat_suc, toNat_pre] <;> rfl)) rfl ?_
 refine dr (ro_move (u2 rfl (u8 rfl s0_3))) rfl <| dr (ro_nilR up_h) rfl <| dr (ro_eq (ro_fld_ref qfl83_0 rfl up_h) (by simp only [pS, Value.cells, Nat.reduceAdd, jnE, beE, Int.toNat_natCast, toNat_suc, toNat_pre] <;> rfl)) rfl ?_
 refine dr (ro_eq (ro_fld_ref qfl26_1 rfl up_h) (by simp only [pS, Value.cells, Nat.reduceAdd, jnE, beE, Int.toNat_natCast, toNat_suc, toNat_pre] <;> rfl)) rfl ?_
 refine dr (ro_eq (ro_ld_ref y21_ty22 rfl up_h (nle rfl)) (by simp only [pS, Value.cells, Nat.reduceAdd, jnE, beE, Int.toNat_natCast, toNat_suc, toNat_pre] <;> rfl)) rfl ?_
 refine dr (ro_move (up_m rfl (u2 rfl (u4 rfl (u8 rfl s1_3))))) rfl <| dr (ro_eq (ro_ix y21_sl22 (up_m rfl up_h) up_h (by omega) (by first | (refine idx_map ?_; first | omega | (simp only [lnS]; omega)) | (refine idx_mapI ?_; first | omega | (simp only [lnS]; omega)) | (refine idx_mapN ?_; first | omega | (simp only [lnS]; omega)) | rfl)) (by simp only [pS, Value.cells, Nat.reduceAdd, jnE, beE, Int.toNat_natCast, toNat_suc, toNat_pre] <;> rfl)) rfl ?_
 refine dr (ro_eq (ro_fld_ref qfl66_0 rfl up_h) (by simp only [pS, Value.cells, Nat.reduceAdd, jnE, beE, Int.toNat_natCast, toNat_suc, toNat_pre] <;> rfl)) rfl ?_
 refine dr (ro_eq (ro_ld_ref y21_ty3 rfl up_h (nle rfl)) (by simp only [pS, Value.cells, Nat.reduceAdd, jnE, beE, Int.toNat_natCast, toNat_suc, toNat_pre] <;> rfl)) rfl ?_
 (refine dr (ro_sub' (up_m rfl (u8 rfl up_h)) up_h ?_) rfl ?_; · (unfold In64; omega))
 refine dr (ro_assign up_h) rfl <| ds_nil <| ae4 (up_m rfl (u4 rfl (u16 rfl s6_3))) (up_m rfl (u4 rfl (u16 rfl s7_3))) (up_m rfl (u4 rfl (u16 rfl s8_3))) up_h ?_; clear s0_3 s1_3 s6_3 s7_3 s8_3; intro e_4 s6_4 s7_4 s8_4 s9_4
 refine then_n <| aw_seq <| at_ <| ar (ro_move s9_4) rfl <| ar (ro_move (up_m rfl s6_4)) rfl ?_
 (refine ar (ro_mul' (up_m rfl up_h) up_h ?_) rfl ?_; · (unfold In64; omega))
 refine ar (ro_move (up_m rfl (u2 rfl s8_4))) rfl <| ar (ro_move (u4 rfl s7_4)) rfl ?_
 (refine ar (ro_mul' (up_m rfl up_h) up_h ?_) rfl ?_; · (unfold In64; omega))
 (refine ar (ro_sub' (up_m rfl (u2 rfl up_h)) up_h ?_) rfl ?_; · (unfold In64; omega))
 refine ar (ro_move (up_m rfl (u2 rfl (u4 rfl s6_4)))) rfl <| ar (ro_move (u8 rfl s7_4)) rfl ?_
 (refine ar (ro_mul' (up_m rfl up_h) up_h ?_) rfl ?_; · (unfold In64; omega))
 refine ar (ro_assign (up_m rfl (u2 rfl up_h))) rfl <| ar (ro_assign (up_m rfl up_h)) rfl <| ae2 (up_m rfl up_h) up_h ?_; clear s6_4 s7_4 s8_4 s9_4; intro e_5 s4_5 s5_5
 refine then_n <| aw_ret <| ret2 (.inr rfl) (by kernel_rfl) (resV_tmp s4_5) (resV_tmp s5_5) (.ro _ rfl) (.ro _ rfl) ?_
 clear s4_5 s5_5 ml_0
 rfl
theorem y22_sl23 : SlIs Try.prog 23 69 2 16 (.agg #[.int .i64 0, .int .i64 0]) := ⟨by kernel_rfl, by kernel_rfl, by kernel_rfl⟩
theorem y22_ty23 : TyIs Try.prog 23 false 1 := ⟨by kernel_rfl, by kernel_rfl⟩
theorem y22_ty3 : TyIs Try.prog 3 false 1 := ⟨by kernel_rfl, by kernel_rfl⟩
theorem y22_ty69 : TyIs Try.prog 69 true 2 := ⟨by kernel_rfl, by kernel_rfl⟩
theorem mul64_low (x y : Int) (hx : InU64 x) (hy : InU64 y) (h : InU64 (x * y)) : FnOk Try.prog 61 [uA x, uA y] (fun q => q = .tuple [uA 0, uA (x * y)]) :=
 (mul64_ok x y hx hy).mono fun q hq => by
  unfold InU64 at h
  rw [hq, show x * y / 18446744073709551616 = 0 by omega, show x * y % 18446744073709551616 = x * y by omega]
def sgnV (n : Int) : Int := if n < 0 then -1 else if 0 < n then 1 else 0
def helV (l : Lin) (s : Int) (j : Nat) : Int := 2000 * s + sgnV (benN l j) * ((l.bs.getD (j - 1) default).cant + (l.bs.getD j default).cant) * 9810
def limU (l : Lin) (s : Int) (j : Nat) : Int := helV l s j * ((l.bs.getD (j - 1) default).len + (l.bs.getD j default).len) * benD l j
def limV (l : Lin) (s : Int) (j : Nat) : Int := if benN l j = 0 then 20000000000 else if helV l s j < 0 then 0 else min (limU l s j / (2 * 2000 * max (benN l j) (-benN l j))) 20000000000
theorem ben_bd {l : Lin} (h : Rgt l) {j : Nat} (hj : 1 ≤ j ∧ j + 2 ≤ l.js.length) : (benN l j).natAbs ≤ 2400000000 ∧ 1000000 ≤ benD l j ∧ benD l j ≤ 900000000 := by
 have hjs := h.js
 have j1 := h.jnt (j - 1) (by omega)
 have j2 := h.jnt j (by omega)
 have j3 := h.jnt (j + 1) (by omega)
 have b1 := h.bea (j - 1) (by omega)
 have b2 := h.bea j (by omega)
 have m1 := mul_in (x := (l.js.getD (j + 1) default).acr - (l.js.getD j default).acr) (y := (l.bs.getD (j - 1) default).len) 40000 30000 (by omega) (by omega)
 have m2 := mul_in (x := (l.js.getD j default).acr - (l.js.getD (j - 1) default).acr) (y := (l.bs.getD j default).len) 40000 30000 (by omega) (by omega)
 have m3 := mul_in (x := (l.bs.getD (j - 1) default).len) (y := (l.bs.getD j default).len) 30000 30000 (by omega) (by omega)
 have m4 : (1000 : Int) * 1000 ≤ (l.bs.getD (j - 1) default).len * (l.bs.getD j default).len := Int.mul_le_mul b1.1 b2.1 (by omega) (by omega)
 unfold benN benD
 omega
theorem hel_bd {l : Lin} (h : Rgt l) {j : Nat} (hj : 1 ≤ j ∧ j + 2 ≤ l.js.length) {s : Int} (hs : 0 ≤ s ∧ s ≤ 5000) : (sgnV (benN l j) * ((l.bs.getD (j - 1) default).cant + (l.bs.getD j default).cant)).natAbs ≤ 600 ∧ (helV l s j).natAbs ≤ 15886000 := by
 have hjs := h.js
 have b1 := h.bea (j - 1) (by omega)
 have b2 := h.bea j (by omega)
 have m1 := mul_in (x := sgnV (benN l j)) (y := (l.bs.getD (j - 1) default).cant + (l.bs.getD j default).cant) 1 600 (by unfold sgnV; split; decide; split <;> decide) (by omega)
 unfold helV
 omega
set_option maxRecDepth 100000 in
set_option maxHeartbeats 4000000 in
theorem limit_low (l : Lin) (h : Rgt l) (s : Int) (hs : 0 ≤ s ∧ s ≤ 5000) (j : Nat) (hj : 1 ≤ j ∧ j + 2 ≤ l.js.length) (hu : limU l s j < 18446744073709551616) : FnOk Try.prog 39 [tkA l, mA s, mA j] (fun q => q = mA (limV l s j)) := by
 refine fnOk_of (fn := Try.f39) 88 (by kernel_rfl) rfl (by kernel_rfl) (Nat.le_of_ble_eq_true rfl) ?_
 intro e_0 m_0 hA hm_0
 have s0_0 : evA e_0 (.tmp 0) = _ := hA 0 _ rfl
 have s1_0 : evA e_0 (.tmp 1) = _ := hA 1 _ rfl
 have s2_0 : evA e_0 (.tmp 2) = _ := hA 2 _ rfl
 have ml_0 : m_0.length = 0 := by rw [hm_0]; rfl
 clear hA hm_0
 have hn1 := h.n1; have hn0 := h.n0; have hjs := h.js; have b1 := h.bea (j - 1) (by omega); have b2 := h.bea j (by omega); obtain ⟨e1, e2, e3⟩ := ben_bd h hj; obtain ⟨e4, e5⟩ := hel_bd h hj hs
 refine aw_seq <| at_ <| ar (ro_assign ev_c) rfl <| ae3 (up_m rfl s0_0) (up_m rfl s1_0) (up_m rfl s2_0) ?_; clear s0_0 s1_0 s2_0; intro e_1 s0_1 s1_1 s2_1
 refine then_n <| aw_seq <| at_ <| ar (ro_move s0_1) rfl <| ar (ro_move (up_m rfl s2_1)) rfl <| ar (ro_call (evL_cons (up_m rfl up_h) (evL_cons up_h evL_nil)) rfl (bend_ok l h j hj) qhcf59) rfl <| ar (ro_move up_h) rfl <| ar (ro_extract up_h rfl) rfl <| ar (ro_extract (up_m rfl up_h) rfl) rfl <| ar (ro_assign (up_m rfl up_h)) rfl <| ar (ro_assign (up_m rfl up_h)) rfl <| ae5 (u8 rfl s0_1) (u8 rfl s1_1) (u8 rfl s2_1) (up_m rfl up_h) up_h ?_; clear s0_1 s1_1 s2_1; intro e_2 s0_2 s1_2 s2_2 s7_2 s8_2
 refine then_n <| aw_seq <| aw_seq <| at_ <| ar (ro_move s7_2) rfl <| ar (ro_eql up_h ev_c) rfl ?_
 refine ae6 (u2 rfl s0_2) (u2 rfl s1_2) (u2 rfl s2_2) (u2 rfl s7_2) (u2 rfl s8_2) up_h ?_; clear s0_2 s1_2 s2_2 s7_2 s8_2; intro e_3 s0_3 s1_3 s2_3 s7_3 s8_3 s24_3
 refine then_n <| aw_case s24_3 (fun hq_4 => ?_) (fun hq_4 => ?_)
 ·replace hq_4 := bt hq_4
  refine aw_seq <| at_ <| ar (ro_assign ev_c) rfl <| ae1 up_h ?_; clear s0_3 s1_3 s24_3 s2_3 s7_3 s8_3; intro e_5 s6_5
  refine then_n <| aw_ret <| then_r <| ret1 (.inr rfl) (by kernel_rfl) (resV_tmp s6_5) (.ro _ rfl) ?_
  clear s6_5 ml_0
  (rw [limV, if_pos (by assumption)])
 replace hq_4 := bf hq_4
 refine aw_skip <| then_n <| aw_seq <| aw_drawK 20 2 ml_0 (by kernel_rfl) (by kernel_rfl) (by kernel_rfl) (by kernel_rfl) (fun m_6 hm_6 => ?_)
 have mo0_6 : m_6[0]? = _ := m_room_g hm_6 ml_0 0 rfl rfl
 have mo1_6 : m_6[1]? = _ := m_room_g hm_6 ml_0 1 rfl rfl
 have ml_6 : _ = 2 := m_room_l (K := 2) hm_6 ml_0
 clear hm_6 ml_0
 refine dh_ro (fun M_ hM_ => (ro_move s0_3)) trivial ?_
 refine dh_ro (fun M_ hM_ => (ro_nilR up_h)) trivial ?_
 refine dh_ro (fun M_ hM_ => (ro_eq (ro_fld_ref qfl83_0 rfl up_h) (by simp only [pS, Value.cells, Nat.reduceAdd, jnE, beE, Int.toNat_natCast, toNat_suc, toNat_pre] <;> rfl))) trivial ?_
 refine dh_ro (fun M_ hM_ => (ro_eq (ro_fld_ref qfl26_2 rfl up_h) (by simp only [pS, Value.cells, Nat.reduceAdd, jnE, beE, Int.toNat_natCast, toNat_suc, toNat_pre] <;> rfl))) trivial ?_
 refine dh_ro (fun M_ hM_ => (ro_eq (ro_ld_ref y22_ty23 rfl up_h (nle rfl)) (by simp only [pS, Value.cells, Nat.reduceAdd, jnE, beE, Int.toNat_natCast, toNat_suc, toNat_pre] <;> rfl))) trivial ?_
 refine dh_ro (fun M_ hM_ => (ro_move (up_m rfl (u4 rfl s2_3)))) trivial ?_
 (refine dh_ro (fun M_ hM_ => (ro_sub' up_h ev_c ?_)) trivial ?_; · ((first | unfold In64 | unfold InU64); omega))
 refine dh_ro (fun M_ hM_ => (ro_eq (ro_ix y22_sl23 (u2 rfl up_h) up_h (by omega) (by first | (refine idx_map ?_; first | omega | (simp only [lnS]; omega)) | (refine idx_mapI ?_; first | omega | (simp only [lnS]; omega)) | (refine idx_mapN ?_; first | omega | (simp only [lnS]; omega)) | rfl)) (by simp only [pS, Value.cells, Nat.reduceAdd, jnE, beE, Int.toNat_natCast, toNat_suc, toNat_pre] <;> rfl))) trivial ?_
 refine dh_ro (fun M_ hM_ => (ro_eq (ro_ld_ref y22_ty69 rfl up_h (nle rfl)) (by simp only [pS, Value.cells, Nat.reduceAdd, jnE, beE, Int.toNat_natCast, toNat_suc, toNat_pre] <;> rfl))) trivial ?_
 refine dh_ro (fun M_ hM_ => (ro_move (up_m rfl (u8 rfl s0_3)))) trivial ?_
 refine dh_ro (fun M_ hM_ => (ro_nilR up_h)) trivial ?_
 refine dh_ro (fun M_ hM_ => (ro_eq (ro_fld_ref qfl83_0 rfl up_h) (by simp only [pS, Value.cells, Nat.reduceAdd, jnE, beE, Int.toNat_natCast, toNat_suc, toNat_pre] <;> rfl))) trivial ?_
 refine dh_ro (fun M_ hM_ => (ro_eq (ro_fld_ref qfl26_2 rfl up_h) (by simp only [pS, Value.cells, Nat.reduceAdd, jnE, beE, Int.toNat_natCast, toNat_suc, toNat_pre] <;> rfl))) trivial ?_
 refine dh_ro (fun M_ hM_ => (ro_eq (ro_ld_ref y22_ty23 rfl up_h (nle rfl)) (by simp only [pS, Value.cells, Nat.reduceAdd, jnE, beE, Int.toNat_natCast, toNat_suc, toNat_pre] <;> rfl))) trivial ?_
 refine dh_ro (fun M_ hM_ => (ro_move (u2 rfl (u4 rfl (u8 rfl s2_3))))) trivial ?_
 refine dh_ro (fun M_ hM_ => (ro_eq (ro_ix y22_sl23 (up_m rfl up_h) up_h (by omega) (by first | (refine idx_map ?_; first | omega | (simp only [lnS]; omega)) | (refine idx_mapI ?_; first | omega | (simp only [lnS]; omega)) | (refine idx_mapN ?_; first | omega | (simp only [lnS]; omega)) | rfl)) (by simp only [pS, Value.cells, Nat.reduceAdd, jnE, beE, Int.toNat_natCast, toNat_suc, toNat_pre] <;> rfl))) trivial ?_
 refine dh_ro (fun M_ hM_ => (ro_eq (ro_ld_ref y22_ty69 rfl up_h (nle rfl)) (by simp only [pS, Value.cells, Nat.reduceAdd, jnE, beE, Int.toNat_natCast, toNat_suc, toNat_pre] <;> rfl))) trivial ?_
 refine dh_nw (0) (fun M_ hM_ => (nw_alloc qaz69 rfl)) trivial mo0_6 rfl trivial trivial (fun m_7 hm_7 => ?_)
 have mo0_7 := m_set hm_7 mo0_6
 simp only [pS, Value.cells, Nat.reduceAdd, jnE, beE, Int.toNat_natCast, toNat_suc, toNat_pre] at mo0_7
 have mo1_7 := m_set_o hm_7 mo1_6 (by decide)
 have ml_7 := m_set_l hm_7 ml_6
 clear hm_7 mo0_6 mo1_6
 refine dh_nw (1) (fun M_ hM_ => (nw_alloc qaz69 rfl)) trivial mo1_7 rfl ⟨.inl (by simp <;> omega), trivial⟩ ⟨.inl (by simp <;> omega), trivial⟩ (fun m_8 hm_8 => ?_)
 have mo1_8 := m_set hm_8 mo1_7
 simp only [pS, Value.cells, Nat.reduceAdd, jnE, beE, Int.toNat_natCast, toNat_suc, toNat_pre] at mo1_8
 have mo0_8 := m_set_o hm_8 mo0_7 (by decide)
 have ml_8 := m_set_l hm_8 ml_7
 clear hm_8 mo0_7 mo1_7
 refine dh_set (0) (fun M_ hM_ => (se_store (up_m rfl up_h) (u2 rfl (u8 rfl up_h)) rfl rfl (agr hM_ mo0_8 (by simp)) qsz69 rfl (nle rfl))) trivial ⟨.inr (wt_one 19 17 (by kernel_rfl)), ⟨.inl (by simp <;> omega), trivial⟩⟩ ⟨.inr (wt_one 19 17 (by kernel_rfl)), ⟨.inl (by simp <;> omega), trivial⟩⟩ (fun m_9 hm_9 => ?_)
 have mo0_9 := m_set hm_9 mo0_8
 simp only [pS, Value.cells, Nat.reduceAdd, jnE, beE, Int.toNat_natCast, toNat_suc, toNat_pre] at mo0_9
 have mo1_9 := m_set_o hm_9 mo1_8 (by decide)
 have ml_9 := m_set_l hm_9 ml_8
 clear hm_9 mo1_8 mo0_8
 refine dh_nil rfl ?_
 refine al_stm (st_store (up_n up_h) (up_n (u2 rfl up_h)) rfl rfl mo1_9 qsz69 rfl (nle rfl)) trivial rfl (fun m_10 hm_10 => ?_)
 have mo1_10 := m_set hm_10 mo1_9
 simp only [pS, Value.cells, Nat.reduceAdd, jnE, beE, Int.toNat_natCast, toNat_suc, toNat_pre] at mo1_10
 have mo0_10 := m_set_o hm_10 mo0_9 (by decide)
 have ml_10 := m_set_l hm_10 ml_9
 clear hm_10 mo0_9 mo1_9
 refine ae5 (up_n (up_n (up_m rfl (u2 rfl (u16 rfl s1_3))))) (up_n (up_n (up_m rfl (u2 rfl (u16 rfl s7_3))))) (up_n (up_n (up_m rfl (u2 rfl (u16 rfl s8_3))))) (up_n (up_n (up_m rfl up_h))) (up_n (up_n up_h)) ?_; clear s0_3 s1_3 s24_3 s2_3 s7_3 s8_3; intro e_11 s1_11 s7_11 s8_11 s9_11 s10_11
 refine then_n <| aw_seq <| at_ <| ar (ro_assign ev_c) rfl <| ae6 (up_m rfl s1_11) (up_m rfl s7_11) (up_m rfl s8_11) (up_m rfl s9_11) (up_m rfl s10_11) up_h ?_; clear s10_11 s1_11 s7_11 s8_11 s9_11; intro e_12 s1_12 s7_12 s8_12 s9_12 s10_12 s11_12
 refine then_n <| aw_seq <| aw_draw 14 (by kernel_rfl) (by kernel_rfl) (by kernel_rfl) (by kernel_rfl) ?_
 refine dr (ro_move s11_12) rfl <| dr (ro_move (up_m rfl s1_12)) rfl ?_
 (refine dr (ro_mul' (up_m rfl up_h) up_h ?_) rfl ?_; · ((first | unfold In64 | unfold InU64); omega))
 refine dr (ro_move (up_m rfl (u2 rfl s7_12))) rfl <| dr (ro_call (evL_cons up_h (evL_cons ev_c evL_nil)) rfl ((compare_ok _ _).mono (fun q h => show q = mA (sgnV (benN l j)) from h)) qhcf60) rfl ?_
 refine dr (ro_fld_ptr qfl69_1 rfl (up_m rfl (u4 rfl s9_12))) rfl <| dr (ro_eq (ro_ld_ptr y22_ty3 rfl mo0_10 up_h (nle rfl)) (by simp only [pS, Value.cells, Nat.reduceAdd, jnE, beE, Int.toNat_natCast, toNat_suc, toNat_pre] <;> rfl)) rfl ?_
 refine dr (ro_fld_ptr qfl69_1 rfl (up_m rfl (u2 rfl (u4 rfl s10_12)))) rfl <| dr (ro_eq (ro_ld_ptr y22_ty3 rfl mo1_10 up_h (nle rfl)) (by simp only [pS, Value.cells, Nat.reduceAdd, jnE, beE, Int.toNat_natCast, toNat_suc, toNat_pre] <;> rfl)) rfl ?_
 (refine dr (ro_add' (u2 rfl up_h) up_h ?_) rfl ?_; · ((first | unfold In64 | unfold InU64); omega))
 (refine dr (ro_mul' (up_m rfl (u4 rfl up_h)) up_h ?_) rfl ?_; · ((first | unfold In64 | unfold InU64); omega))
 (refine dr (ro_mul' up_h ev_c ?_) rfl ?_; · ((first | unfold In64 | unfold InU64); omega))
 (refine dr (ro_add' (up_m rfl (u8 rfl up_h)) up_h ?_) rfl ?_; · ((first | unfold In64 | unfold InU64); omega))
 refine dr (ro_assign up_h) rfl <| ds_nil <| ae6 (u2 rfl (u4 rfl (u8 rfl s7_12))) (u2 rfl (u4 rfl (u8 rfl s8_12))) (u2 rfl (u4 rfl (u8 rfl s9_12))) (u2 rfl (u4 rfl (u8 rfl s10_12))) (u2 rfl (u4 rfl (u8 rfl s11_12))) up_h ?_; clear s10_12 s11_12 s1_12 s7_12 s8_12 s9_12; intro e_13 s7_13 s8_13 s9_13 s10_13 s11_13 s12_13
 refine then_n <| aw_seq <| aw_seq <| at_ <| ar (ro_move s12_13) rfl <| ar (ro_lss up_h ev_c) rfl <| ae7 (u2 rfl s7_13) (u2 rfl s8_13) (u2 rfl s9_13) (u2 rfl s10_13) (u2 rfl s11_13) (u2 rfl s12_13) up_h ?_; clear s10_13 s11_13 s12_13 s7_13 s8_13 s9_13; intro e_14 s7_14 s8_14 s9_14 s10_14 s11_14 s12_14 s56_14
 refine then_n <| aw_case s56_14 (fun hq_15 => ?_) (fun hq_15 => ?_)
 ·replace hq_15 := bt hq_15
  refine aw_seq <| at_ <| ar (ro_assign ev_c) rfl <| ae1 up_h ?_; clear s10_14 s11_14 s12_14 s56_14 s7_14 s8_14 s9_14; intro e_16 s6_16
  refine then_n <| aw_ret <| then_r <| ret1 (.inr rfl) (by kernel_rfl) (resV_tmp s6_16) (.ro _ rfl) ?_
  clear s6_16 mo1_10 mo0_10 ml_10
  (rw [limV, if_neg (by assumption), if_pos (by assumption)])
 replace hq_15 := bf hq_15
 (have hh : 0 ≤ (2000 * s + sgnV (benN l j) * ((l.bs.getD (j - 1) default).cant + (l.bs.getD j default).cant) * 9810) := (by omega); have m1 := mul_in (x := (2000 * s + sgnV (benN l j) * ((l.bs.getD (j - 1) default).cant + (l.bs.getD j default).cant) * 9810)) (y := ((l.bs.getD (j - 1) default).len + (l.bs.getD j default).len)) 15886000 60000 e5 (by omega); have n1 := Int.mul_nonneg hh (show 0 ≤ ((l.bs.getD (j - 1) default).len + (l.bs.getD j default).len) by omega); have vv1 : InU64 ((2000 * s + sgnV (benN l j) * ((l.bs.getD (j - 1) default).cant + (l.bs.getD j default).cant) * 9810) * ((l.bs.getD (j - 1) default).len + (l.bs.getD j default).len)) := ⟨n1, by omega⟩; have vv2 : InU64 (benD l j) := ⟨by omega, by omega⟩; have vv3 : InU64 ((2000 * s + sgnV (benN l j) * ((l.bs.getD (j - 1) default).cant + (l.bs.getD j default).cant) * 9810) * ((l.bs.getD (j - 1) default).len + (l.bs.getD j default).len) * benD l j) := ⟨Int.mul_nonneg n1 (by omega), hu⟩; have vv4 : InU64 (2 * 2000 * max (benN l j) (-benN l j)) := ⟨by omega, by omega⟩; have vv5 : 0 < 2 * 2000 * max (benN l j) (-benN l j) := (by omega); have vv6 := Int.ediv_nonneg vv3.1 (Int.le_of_lt vv5); unfold InU64 at vv1 vv2 vv4)
 refine aw_skip <| then_n <| aw_seq <| at_ <| ar (ro_move s12_14) rfl <| ar (ro_fld_ptr qfl69_0 rfl (up_m rfl s9_14)) rfl <| ar (ro_eq (ro_ld_ptr y22_ty3 rfl mo0_10 up_h (nle rfl)) (by simp only [pS, Value.cells, Nat.reduceAdd, jnE, beE, Int.toNat_natCast, toNat_suc, toNat_pre] <;> rfl)) rfl ?_
 refine ar (ro_fld_ptr qfl69_0 rfl (up_m rfl (u2 rfl s10_14))) rfl <| ar (ro_eq (ro_ld_ptr y22_ty3 rfl mo1_10 up_h (nle rfl)) (by simp only [pS, Value.cells, Nat.reduceAdd, jnE, beE, Int.toNat_natCast, toNat_suc, toNat_pre] <;> rfl)) rfl ?_
 (refine ar (ro_add' (u2 rfl up_h) up_h ?_) rfl ?_; · ((first | unfold In64 | unfold InU64); omega))
 (refine ar (ro_mul' (up_m rfl (u4 rfl up_h)) up_h ?_) rfl ?_; · ((first | unfold In64 | unfold InU64); omega))
 (refine ar (ro_cvU up_h (by kernel_rfl) (by kernel_rfl) ?_) rfl ?_; · ((first | unfold In64 | unfold InU64); omega))
 refine ar (ro_move (u8 rfl s8_14)) rfl ?_
 (refine ar (ro_cvU up_h (by kernel_rfl) (by kernel_rfl) ?_) rfl ?_; · ((first | unfold In64 | unfold InU64); omega))
 refine ar (ro_call (evL_cons (u2 rfl up_h) (evL_cons up_h evL_nil)) rfl (mul64_low _ _ vv1 vv2 vv3) qhcf61) rfl <| ar (ro_move up_h) rfl <| ar (ro_extract up_h rfl) rfl <| ar (ro_extract (up_m rfl up_h) rfl) rfl <| ar (ro_assign (up_m rfl up_h)) rfl <| ar (ro_assign (up_m rfl up_h)) rfl <| ae4 (u16 rfl s7_14) (u16 rfl s11_14) (up_m rfl up_h) up_h ?_; clear s10_14 s11_14 s12_14 s56_14 s7_14 s8_14 s9_14; intro e_17 s7_17 s11_17 s13_17 s14_17
 refine then_n <| aw_seq <| at_ <| ar (ro_move s13_17) rfl <| ar (ro_move (up_m rfl s14_17)) rfl <| ar (ro_move (u2 rfl s11_17)) rfl ?_
 (refine ar (ro_mul' ev_c up_h ?_) rfl ?_; · ((first | unfold In64 | unfold InU64); omega))
 refine ar (ro_move (u4 rfl s7_17)) rfl <| ar (ro_move (up_m rfl (u4 rfl s7_17))) rfl ?_
 (refine ar (ro_neg' up_h ?_) rfl ?_; · ((first | unfold In64 | unfold InU64); omega))
 refine ar (ro_max (u2 rfl up_h) up_h) rfl ?_
 (refine ar (ro_mul' (u4 rfl up_h) up_h ?_) rfl ?_; · ((first | unfold In64 | unfold InU64); omega))
 (refine ar (ro_cvU up_h (by kernel_rfl) (by kernel_rfl) ?_) rfl ?_; · ((first | unfold In64 | unfold InU64); omega))
 refine ar (ro_call (evL_cons (up_m rfl (u8 rfl up_h)) (evL_cons (u8 rfl up_h) (evL_cons up_h evL_nil))) rfl (div64_low _ _ vv3 vv4 vv5) qhcf62) rfl <| ar (ro_move up_h) rfl <| ar (ro_extract up_h rfl) rfl <| ar (ro_extract (up_m rfl up_h) rfl) rfl <| ar (ro_assign (up_m rfl up_h)) rfl <| ar (ro_assign (up_m rfl up_h)) rfl <| ae1 (up_m rfl up_h) ?_; clear s11_17 s13_17 s14_17 s7_17; intro e_18 s15_18
 refine then_n <| aw_seq <| at_ <| ar (ro_move s15_18) rfl <| ar (ro_min up_h ev_c) rfl ?_
 (refine ar (ro_cvI up_h (by kernel_rfl) (by kernel_rfl) ?_) rfl ?_; · ((first | unfold In64 | unfold InU64); omega))
 refine ar (ro_assign up_h) rfl <| ae1 up_h ?_; clear s15_18; intro e_19 s6_19
 refine then_n <| aw_ret <| ret1 (.inr rfl) (by kernel_rfl) (resV_tmp s6_19) (.ro _ rfl) ?_
 clear s6_19 mo1_10 mo0_10 ml_10
 (rw [limV, if_neg (by assumption), if_neg (by assumption)]; rfl)
theorem y23_fl59_1 : FldIs Try.prog 59 1 1 false 1 := by unfold FldIs; kernel_rfl
theorem y23_fl59_2 : FldIs Try.prog 59 2 2 false 1 := by unfold FldIs; kernel_rfl
theorem y23_hcf45 : ∀ args w, (callFunc 45 args).run Try.prog w = .ok (.enter 45 args) w := fun _ _ => by kernel_rfl
theorem y23_hcf65 : ∀ args w, (callFunc 65 args).run Try.prog w = .ok (.enter 65 args) w := fun _ _ => by kernel_rfl
theorem y23_sl100 : SlIs Try.prog 100 29 1 8 (.int .i64 0) := ⟨by kernel_rfl, by kernel_rfl, by kernel_rfl⟩
theorem y23_ty26 : TyIs Try.prog 26 true 4 := ⟨by kernel_rfl, by kernel_rfl⟩
theorem y23_ty3 : TyIs Try.prog 3 false 1 := ⟨by kernel_rfl, by kernel_rfl⟩
theorem y23_ty59 : TyIs Try.prog 59 true 3 := ⟨by kernel_rfl, by kernel_rfl⟩
theorem firstE_0 (e : Int) : firstE [0, e] = e := by
 by_cases h : e = 0 <;> simp [firstE, h]
def sidE (s : Int) : Int := unlessE (withinB s 0 5000) 2
theorem sidE_z {s : Int} : sidE s = 0 ↔ 0 ≤ s ∧ s ≤ 5000 := by
 unfold sidE unlessE; rw [← withinB_iff]
 cases withinB s 0 5000 <;> simp
def limE (l : Lin) (s j : Int) : Int := if sidE s = 0 then misE j 1 (l.js.length - 2) else sidE s
set_option maxRecDepth 100000 in
set_option maxHeartbeats 4000000 in
theorem limitAt_good (l : Lin) (hl : Sho l) (hg : (linM l).2 = 0) (s j : Int) (hL : 0 ≤ s ∧ s ≤ 5000 → ∀ n : Nat, 1 ≤ n ∧ n + 2 ≤ l.js.length → FnOk Try.prog 39 [tkA l, mA s, mA n] (fun q => q = mA (limV l s n))) : FnOk Try.prog 24 [lnA l, mA s, mA j] (fun q => q = .tuple [mA (if limE l s j = 0 then limV l s j.toNat else 0), mA (limE l s j)]) := by
 refine fnOk_of (fn := Try.f24) 34 (by kernel_rfl) rfl (by kernel_rfl) (Nat.le_of_ble_eq_true rfl) ?_
 intro e_0 m_0 hA hm_0
 have s0_0 : evA e_0 (.tmp 0) = _ := hA 0 _ rfl
 have s1_0 : evA e_0 (.tmp 1) = _ := hA 1 _ rfl
 have s2_0 : evA e_0 (.tmp 2) = _ := hA 2 _ rfl
 have ml_0 : m_0.length = 0 := by rw [hm_0]; rfl
 clear hA hm_0
 have h := rgt_of hg; have hn1 := h.n1; have hn0 := h.n0; have hjs := h.js
 refine aw_seq <| at_ <| al_stm (st_box s0_0 rfl ml_0) trivial rfl (fun m_1 hm_1 => ?_)
 have mo0_1 := m_push hm_1 ml_0
 have ml_1 := m_push_l hm_1 ml_0
 have ml_1 : _ = 1 := ml_1
 clear hm_1
 refine ar (ro_assign ev_c) rfl <| ar (ro_assign ev_c) rfl <| ae3 (up_m rfl (u2 rfl s1_0)) (up_m rfl (u2 rfl s2_0)) (u2 rfl up_h) ?_; clear s0_0 s1_0 s2_0; intro e_2 s1_2 s2_2 s3_2
 refine then_n <| aw_seq <| at_ <| ar (ro_eq (ro_ld_ptr y23_ty26 rfl mo0_1 s3_2 (nle rfl)) (by simp only [pS, Value.cells, Nat.reduceAdd] <;> rfl)) rfl ?_
 refine ar (ro_call (evL_cons up_h evL_nil) rfl (yOpen_good l hl hg) qhcf27) rfl <| ar (ro_move up_h) rfl <| ar (ro_extract up_h rfl) rfl <| ar (ro_extract (up_m rfl up_h) rfl) rfl <| ar (ro_assign (up_m rfl up_h)) rfl <| ar (ro_assign (up_m rfl up_h)) rfl <| ae4 (up_m rfl (u2 rfl (u4 rfl s1_2))) (up_m rfl (u2 rfl (u4 rfl s2_2))) (up_m rfl up_h) up_h ?_; clear s1_2 s2_2 s3_2; intro e_3 s1_3 s2_3 s8_3 s9_3
 refine then_n <| aw_seq <| aw_seq <| at_ <| ar (ro_move s9_3) rfl <| ar (ro_move (up_m rfl s1_3)) rfl <| ar (ro_call (evL_cons up_h evL_nil) rfl (sideErr_ok _) qhcf38) rfl <| ar (ro_lit y23_sl100 (evP_cons (u2 rfl up_h) (evP_cons up_h evP_nil)) rfl rfl rfl rfl) rfl <| ar (ro_call (evL_cons up_h evL_nil) rfl ((yFirst_ok [_, _] (by simp)).mono (fun q h => h.trans (show mA (firstE [0, unlessE (withinB s 0 5000) 2]) = mA (sidE s) from congrArg mA (firstE_0 _)))) qhcf37) rfl ?_
 refine ar (ro_assign up_h) rfl <| ae4 (u2 rfl (u4 rfl s1_3)) (u2 rfl (u4 rfl s2_3)) (u2 rfl (u4 rfl s8_3)) up_h ?_; clear s1_3 s2_3 s8_3 s9_3; intro e_4 s1_4 s2_4 s8_4 s9_4
 refine then_n <| aw_seq <| at_ <| ar (ro_move s9_4) rfl <| ar (ro_neq up_h ev_c) rfl <| ae5 (u2 rfl s1_4) (u2 rfl s2_4) (u2 rfl s8_4) (u2 rfl s9_4) up_h ?_; clear s1_4 s2_4 s8_4 s9_4; intro e_5 s1_5 s2_5 s8_5 s9_5 s22_5
 refine then_n <| aw_case s22_5 (fun hq_6 => ?_) (fun hq_6 => ?_)
 ·replace hq_6 := bnt hq_6
  refine aw_seq <| at_ <| ar (ro_move s9_5) rfl <| ar (ro_assign ev_c) rfl <| ar (ro_assign (up_m rfl up_h)) rfl <| ae2 (up_m rfl up_h) up_h ?_; clear s1_5 s22_5 s2_5 s8_5 s9_5; intro e_7 s6_7 s7_7
  refine then_n <| aw_ret <| then_r <| ret2 (.inr rfl) (by kernel_rfl) (resV_tmp s6_7) (resV_tmp s7_7) (.ro _ rfl) (.ro _ rfl) ?_
  clear s6_7 s7_7 mo0_1 ml_1
  (have hs : ¬ sidE s = 0 := (by assumption); simp [limE, hs])
 replace hq_6 := bnf hq_6
 (have hs : sidE s = 0 := (by assumption); have hs2 := sidE_z.1 hs)
 refine aw_skip <| then_n <| aw_seq <| aw_seq <| at_ <| ar (ro_move s8_5) rfl <| ar (ro_move (up_m rfl s2_5)) rfl <| ar (ro_call (evL_cons (up_m rfl up_h) (evL_cons up_h evL_nil)) rfl (yInnerErr_ok l h _) y23_hcf45) rfl <| ar (ro_assign up_h) rfl <| ae4 (u4 rfl s1_5) (u4 rfl s2_5) (u4 rfl s8_5) up_h ?_; clear s1_5 s22_5 s2_5 s8_5 s9_5; intro e_8 s1_8 s2_8 s8_8 s10_8
 refine then_n <| aw_seq <| at_ <| ar (ro_move s10_8) rfl <| ar (ro_neq up_h ev_c) rfl <| ae5 (u2 rfl s1_8) (u2 rfl s2_8) (u2 rfl s8_8) (u2 rfl s10_8) up_h ?_; clear s10_8 s1_8 s2_8 s8_8; intro e_9 s1_9 s2_9 s8_9 s10_9 s28_9
 refine then_n <| aw_case s28_9 (fun hq_10 => ?_) (fun hq_10 => ?_)
 ·replace hq_10 := bnt hq_10
  refine aw_seq <| at_ <| ar (ro_move s10_9) rfl <| ar (ro_assign ev_c) rfl <| ar (ro_assign (up_m rfl up_h)) rfl <| ae2 (up_m rfl up_h) up_h ?_; clear s10_9 s1_9 s28_9 s2_9 s8_9; intro e_11 s6_11 s7_11
  refine then_n <| aw_ret <| then_r <| ret2 (.inr rfl) (by kernel_rfl) (resV_tmp s6_11) (resV_tmp s7_11) (.ro _ rfl) (.ro _ rfl) ?_
  clear s6_11 s7_11 mo0_1 ml_1
  (have hm : ¬ misE j 1 (l.js.length - 2) = 0 := (by assumption); simp [limE, hs, hm])
 replace hq_10 := bnf hq_10
 (have hm : misE j 1 (l.js.length - 2) = 0 := (by assumption); have hm2 := misE_z.1 hm; have lm := hL hs2 j.toNat (by omega); rw [show ((j.toNat : Nat) : Int) = j by omega] at lm)
 refine aw_skip <| then_n <| aw_seq <| at_ <| ar (ro_move s8_9) rfl <| ar (ro_move (up_m rfl s1_9)) rfl <| ar (ro_move (u2 rfl s2_9)) rfl <| ar (ro_call (evL_cons (u2 rfl up_h) (evL_cons (up_m rfl up_h) (evL_cons up_h evL_nil))) rfl (lm) qhcf39) rfl <| ar (ro_assign up_h) rfl <| ar (ro_assign ev_c) rfl <| ae2 (up_m rfl up_h) up_h ?_; clear s10_9 s1_9 s28_9 s2_9 s8_9; intro e_12 s6_12 s7_12
 refine then_n <| aw_ret <| ret2 (.inr rfl) (by kernel_rfl) (resV_tmp s6_12) (resV_tmp s7_12) (.ro _ rfl) (.ro _ rfl) ?_
 clear s6_12 s7_12 mo0_1 ml_1
 simp [limE, hs, hm]
abbrev vehA (L c s : Int) : AV := .agg [mA L, mA c, mA s]
def vehE (L c s : Int) : Int := unlessE (withinB L 1000 30000 && withinB c 0 1000 && withinB s 100 30000) 2
theorem vehE_z {L c s : Int} : vehE L c s = 0 ↔ (1000 ≤ L ∧ L ≤ 30000) ∧ (0 ≤ c ∧ c ≤ 1000) ∧ 100 ≤ s ∧ s ≤ 30000 := by
 unfold vehE unlessE
 rw [← withinB_iff, ← withinB_iff, ← withinB_iff]
 cases withinB L 1000 30000 <;> cases withinB c 0 1000 <;> cases withinB s 100 30000 <;> simp
set_option maxRecDepth 100000 in
set_option maxHeartbeats 4000000 in
theorem checkVehicle_ok (L c s : Int) : FnOk Try.prog 65 [vehA L c s] (fun q => q = mA (vehE L c s)) := by
 refine fnOk_of (fn := Try.f65) 17 (by kernel_rfl) rfl (by kernel_rfl) (Nat.le_of_ble_eq_true rfl) ?_
 intro e_0 m_0 hA hm_0
 have s0_0 : evA e_0 (.tmp 0) = _ := hA 0 _ rfl
 have ml_0 : m_0.length = 0 := by rw [hm_0]; rfl
 clear hA hm_0
 refine aw_seq <| at_ <| al_stm (st_box s0_0 rfl ml_0) trivial rfl (fun m_1 hm_1 => ?_)
 have mo0_1 := m_push hm_1 ml_0
 have ml_1 := m_push_l hm_1 ml_0
 have ml_1 : _ = 1 := ml_1
 clear hm_1
 refine ar (ro_assign ev_c) rfl <| ae1 (up_m rfl up_h) ?_; clear s0_0; intro e_2 s1_2
 refine then_n <| aw_seq <| at_ <| ar (ro_fld_ptr qfl59_0 rfl s1_2) rfl <| ar (ro_eq (ro_ld_ptr y23_ty3 rfl mo0_1 up_h (nle rfl)) (by simp only [pS, Value.cells, Nat.reduceAdd] <;> rfl)) rfl ?_
 refine ar (ro_call (evL_cons up_h (evL_cons ev_c (evL_cons ev_c evL_nil))) rfl (yWithin_ok _ _ _) qhcf57) rfl <| ar (ro_move up_h) rfl <| al_case up_h (fun hb_3 hq_3 => ?_) (fun hb_3 hq_3 => ?_)
 ·skip
  refine al_ro' (ro_fld_ptr y23_fl59_1 rfl (u4 rfl s1_2)) ⟨_, rfl, hb_3⟩ rfl ?_
  refine al_ro' (ro_eq (ro_ld_ptr y23_ty3 rfl mo0_1 up_h (nle rfl)) (by simp only [pS, Value.cells, Nat.reduceAdd] <;> rfl)) ⟨_, rfl, (up_m rfl hb_3)⟩ rfl ?_
  refine al_ro' (ro_call (evL_cons up_h (evL_cons ev_c (evL_cons ev_c evL_nil))) rfl (yWithin_ok _ _ _) qhcf57) ⟨_, rfl, (u2 rfl hb_3)⟩ rfl ?_
  refine ar (ro_pickT (up_m rfl (u2 rfl hb_3)) up_h) rfl <| ar (ro_move up_h) rfl <| al_case up_h (fun hb_4 hq_4 => ?_) (fun hb_4 hq_4 => ?_)
  ·skip
   refine al_ro' (ro_fld_ptr y23_fl59_2 rfl (up_m rfl (u8 rfl s1_2))) ⟨_, rfl, hb_4⟩ rfl ?_
   refine al_ro' (ro_eq (ro_ld_ptr y23_ty3 rfl mo0_1 up_h (nle rfl)) (by simp only [pS, Value.cells, Nat.reduceAdd] <;> rfl)) ⟨_, rfl, (up_m rfl hb_4)⟩ rfl ?_
   refine al_ro' (ro_call (evL_cons up_h (evL_cons ev_c (evL_cons ev_c evL_nil))) rfl (yWithin_ok _ _ _) qhcf57) ⟨_, rfl, (u2 rfl hb_4)⟩ rfl ?_
   refine ar (ro_pickT (up_m rfl (u2 rfl hb_4)) up_h) rfl <| ar (ro_call (evL_cons up_h (evL_cons ev_c evL_nil)) rfl (yUnless_ok _ _) qhcf56) rfl <| ar (ro_assign up_h) rfl <| ae1 up_h ?_; clear hb_3 hb_4 s1_2; intro e_5 s2_5
   refine then_n <| aw_ret <| ret1 (.inr rfl) (by kernel_rfl) (resV_tmp s2_5) (.ro _ rfl) ?_
   clear s2_5 mo0_1 ml_1
   (unfold vehE; simp_all)
  refine al_skip' ⟨_, rfl, .inl hb_4⟩ rfl ?_
  refine al_skip' ⟨_, rfl, .inl (up_m rfl hb_4)⟩ rfl ?_
  refine al_skip' ⟨_, rfl, .inl (u2 rfl hb_4)⟩ rfl ?_
  refine ar (ro_pickF (up_m rfl (u2 rfl hb_4)) ev_c) rfl <| ar (ro_call (evL_cons up_h (evL_cons ev_c evL_nil)) rfl (yUnless_ok _ _) qhcf56) rfl <| ar (ro_assign up_h) rfl <| ae1 up_h ?_; clear hb_3 hb_4 s1_2; intro e_6 s2_6
  refine then_n <| aw_ret <| ret1 (.inr rfl) (by kernel_rfl) (resV_tmp s2_6) (.ro _ rfl) ?_
  clear s2_6 mo0_1 ml_1
  (unfold vehE; simp_all)
 refine al_skip' ⟨_, rfl, .inl hb_3⟩ rfl ?_
 refine al_skip' ⟨_, rfl, .inl (up_m rfl hb_3)⟩ rfl ?_
 refine al_skip' ⟨_, rfl, .inl (u2 rfl hb_3)⟩ rfl ?_
 refine ar (ro_pickF (up_m rfl (u2 rfl hb_3)) ev_c) rfl <| ar (ro_move up_h) rfl <| al_skip' ⟨_, rfl, .inl up_h⟩ rfl ?_
 refine al_skip' ⟨_, rfl, .inl (up_m rfl up_h)⟩ rfl ?_
 refine al_skip' ⟨_, rfl, .inl (u2 rfl up_h)⟩ rfl ?_
 refine ar (ro_pickF (up_m rfl (u2 rfl up_h)) ev_c) rfl <| ar (ro_call (evL_cons up_h (evL_cons ev_c evL_nil)) rfl (yUnless_ok _ _) qhcf56) rfl <| ar (ro_assign up_h) rfl <| ae1 up_h ?_; clear hb_3 s1_2; intro e_7 s2_7
 refine then_n <| aw_ret <| ret1 (.inr rfl) (by kernel_rfl) (resV_tmp s2_7) (.ro _ rfl) ?_
 clear s2_7 mo0_1 ml_1
 (unfold vehE; simp_all)
def posE (l : Lin) (L s p : Int) : Int := unlessE (withinB p 0 (plaP l.bs l.bs.length - L) && decide (p.tmod s = 0)) 6
theorem posE_z {l : Lin} {L s p : Int} : posE l L s p = 0 ↔ (0 ≤ p ∧ p ≤ plaP l.bs l.bs.length - L) ∧ p.tmod s = 0 := by
 unfold posE unlessE
 rw [← withinB_iff]
 cases withinB p 0 (plaP l.bs l.bs.length - L) <;> by_cases h : p.tmod s = 0 <;> simp [h]
set_option maxRecDepth 100000 in
set_option maxHeartbeats 4000000 in
theorem openPose_good (l : Lin) (hl : Sho l) (hg : (linM l).2 = 0) (L c s p : Int) (hv : vehE L c s = 0) : FnOk Try.prog 46 [lnA l, vehA L c s, mA p] (fun q => q = .tuple [tkA l, mA (posE l L s p)]) := by
 refine fnOk_of (fn := Try.f46) 39 (by kernel_rfl) rfl (by kernel_rfl) (Nat.le_of_ble_eq_true rfl) ?_
 intro e_0 m_0 hA hm_0
 have s0_0 : evA e_0 (.tmp 0) = _ := hA 0 _ rfl
 have s1_0 : evA e_0 (.tmp 1) = _ := hA 1 _ rfl
 have s2_0 : evA e_0 (.tmp 2) = _ := hA 2 _ rfl
 have ml_0 : m_0.length = 0 := by rw [hm_0]; rfl
 clear hA hm_0
 have hf : firstE [0, vehE L c s] = vehE L c s := firstE_0 _; have hv2 := vehE_z.1 hv; have h := rgt_of hg; have hpb := h.pla (n := l.bs.length) (Nat.le_refl _)
 refine aw_seq <| at_ <| al_stm (st_box s0_0 rfl ml_0) trivial rfl (fun m_1 hm_1 => ?_)
 have mo0_1 := m_push hm_1 ml_0
 have ml_1 := m_push_l hm_1 ml_0
 have ml_1 : _ = 1 := ml_1
 clear hm_1
 refine al_stm (st_box (up_m rfl s1_0) rfl ml_1) trivial rfl (fun m_2 hm_2 => ?_)
 have mo1_2 := m_push hm_2 ml_1
 have mo0_2 := m_push_o hm_2 mo0_1
 have ml_2 := m_push_l hm_2 ml_1
 have ml_2 : _ = 2 := ml_2
 clear hm_2 mo0_1
 refine ar (ro_assign ev_c) rfl <| ar (ro_assign ev_c) rfl <| ae3 (u4 rfl s2_0) (up_m rfl (u2 rfl up_h)) (u2 rfl up_h) ?_; clear s0_0 s1_0 s2_0; intro e_3 s2_3 s3_3 s4_3
 refine then_n <| aw_seq <| at_ <| ar (ro_eq (ro_ld_ptr y23_ty26 rfl mo0_2 s3_3 (nle rfl)) (by simp only [pS, Value.cells, Nat.reduceAdd] <;> rfl)) rfl ?_
 refine ar (ro_call (evL_cons up_h evL_nil) rfl (yOpen_good l hl hg) qhcf27) rfl <| ar (ro_move up_h) rfl <| ar (ro_extract up_h rfl) rfl <| ar (ro_extract (up_m rfl up_h) rfl) rfl <| ar (ro_assign (up_m rfl up_h)) rfl <| ar (ro_assign (up_m rfl up_h)) rfl <| ae4 (up_m rfl (u2 rfl (u4 rfl s2_3))) (up_m rfl (u2 rfl (u4 rfl s4_3))) (up_m rfl up_h) up_h ?_; clear s2_3 s3_3 s4_3; intro e_4 s2_4 s4_4 s8_4 s9_4
 refine then_n <| aw_seq <| aw_seq <| at_ <| ar (ro_move s9_4) rfl <| ar (ro_eq (ro_ld_ptr y23_ty59 rfl mo1_2 (up_m rfl s4_4) (nle rfl)) (by simp only [pS, Value.cells, Nat.reduceAdd] <;> rfl)) rfl ?_
 refine ar (ro_call (evL_cons up_h evL_nil) rfl (checkVehicle_ok L c s) y23_hcf65) rfl <| ar (ro_lit y23_sl100 (evP_cons (u2 rfl up_h) (evP_cons up_h evP_nil)) rfl rfl rfl rfl) rfl <| ar (ro_call (evL_cons up_h evL_nil) rfl ((yFirst_ok [_, _] (by simp)).mono (fun q h => h.trans (by rw [hf]))) qhcf37) rfl ?_
 refine ar (ro_assign up_h) rfl <| ae4 (u2 rfl (u4 rfl s2_4)) (u2 rfl (u4 rfl s4_4)) (u2 rfl (u4 rfl s8_4)) up_h ?_; clear s2_4 s4_4 s8_4 s9_4; intro e_5 s2_5 s4_5 s8_5 s9_5
 refine then_n <| aw_seq <| at_ <| ar (ro_move s9_5) rfl <| ar (ro_neq up_h ev_c) rfl <| ae5 (u2 rfl s2_5) (u2 rfl s4_5) (u2 rfl s8_5) (u2 rfl s9_5) up_h ?_; clear s2_5 s4_5 s8_5 s9_5; intro e_6 s2_6 s4_6 s8_6 s9_6 s21_6
 refine then_n <| aw_case s21_6 (fun hq_7 => ?_) (fun hq_7 => ?_)
 ·replace hq_7 := bnt hq_7; exfalso; omega
 replace hq_7 := bnf hq_7
 refine aw_skip <| then_n <| aw_seq <| aw_draw 18 (by kernel_rfl) (by kernel_rfl) (by kernel_rfl) (by kernel_rfl) ?_
 refine dr (ro_move s8_6) rfl <| dr (ro_move (up_m rfl s2_6)) rfl <| dr (ro_move (u2 rfl s8_6)) rfl <| dr (ro_call (evL_cons up_h evL_nil) rfl (length_ok l h) qhcf44) rfl <| dr (ro_fld_ptr qfl59_0 rfl (u4 rfl s4_6)) rfl <| dr (ro_eq (ro_ld_ptr y23_ty3 rfl mo1_2 up_h (nle rfl)) (by simp only [pS, Value.cells, Nat.reduceAdd] <;> rfl)) rfl ?_
 (refine dr (ro_sub' (u2 rfl up_h) up_h ?_) rfl ?_; · (unfold In64; omega))
 refine dr (ro_call (evL_cons (up_m rfl (u4 rfl up_h)) (evL_cons ev_c (evL_cons up_h evL_nil))) rfl (yWithin_ok _ _ _) qhcf57) rfl <| dr (ro_move up_h) rfl <| ds_case up_h (fun hb_9 hq_9 => ?_) (fun hb_9 hq_9 => ?_)
 ·skip
  refine ds_ro' (ro_move (up_m rfl (u8 rfl s2_6))) ⟨_, rfl, hb_9⟩ rfl ?_
  refine ds_ro' (ro_fld_ptr y23_fl59_2 rfl (u2 rfl (u8 rfl s4_6))) ⟨_, rfl, (up_m rfl hb_9)⟩ rfl ?_
  refine ds_ro' (ro_eq (ro_ld_ptr y23_ty3 rfl mo1_2 up_h (nle rfl)) (by simp only [pS, Value.cells, Nat.reduceAdd] <;> rfl)) ⟨_, rfl, (u2 rfl hb_9)⟩ rfl ?_
  refine ds_ro' (ro_rem (u2 rfl up_h) up_h (by omega)) ⟨_, rfl, (up_m rfl (u2 rfl hb_9))⟩ rfl ?_
  refine ds_ro' (ro_eql up_h ev_c) ⟨_, rfl, (u4 rfl hb_9)⟩ rfl ?_
  refine dr (ro_pickT (up_m rfl (u4 rfl hb_9)) up_h) rfl <| dr (ro_call (evL_cons up_h (evL_cons ev_c evL_nil)) rfl (yUnless_ok _ _) qhcf56) rfl <| dr (ro_assign (up_m rfl (u2 rfl (u4 rfl (u8 rfl up_h))))) rfl <| dr (ro_assign (up_m rfl up_h)) rfl <| ds_nil <| ae2 (up_m rfl up_h) up_h ?_; clear hb_9 s21_6 s2_6 s4_6 s8_6 s9_6; intro e_10 s6_10 s7_10
  refine then_n <| aw_ret <| ret2 (.inr rfl) (by kernel_rfl) (resV_tmp s6_10) (resV_tmp s7_10) (.ro _ rfl) (.ro _ rfl) ?_
  clear s6_10 s7_10 mo1_2 mo0_2 ml_2
  (unfold posE; simp_all)
 refine ds_skip' ⟨_, rfl, .inl hb_9⟩ rfl ?_
 refine ds_skip' ⟨_, rfl, .inl (up_m rfl hb_9)⟩ rfl ?_
 refine ds_skip' ⟨_, rfl, .inl (u2 rfl hb_9)⟩ rfl ?_
 refine ds_skip' ⟨_, rfl, .inl (up_m rfl (u2 rfl hb_9))⟩ rfl ?_
 refine ds_skip' ⟨_, rfl, .inl (u4 rfl hb_9)⟩ rfl ?_
 refine dr (ro_pickF (up_m rfl (u4 rfl hb_9)) ev_c) rfl <| dr (ro_call (evL_cons up_h (evL_cons ev_c evL_nil)) rfl (yUnless_ok _ _) qhcf56) rfl <| dr (ro_assign (up_m rfl (u2 rfl (u4 rfl (u8 rfl up_h))))) rfl <| dr (ro_assign (up_m rfl up_h)) rfl <| ds_nil <| ae2 (up_m rfl up_h) up_h ?_; clear hb_9 s21_6 s2_6 s4_6 s8_6 s9_6; intro e_11 s6_11 s7_11
 refine then_n <| aw_ret <| ret2 (.inr rfl) (by kernel_rfl) (resV_tmp s6_11) (resV_tmp s7_11) (.ro _ rfl) (.ro _ rfl) ?_
 clear s6_11 s7_11 mo1_2 mo0_2 ml_2
 (unfold posE; simp_all)
theorem fdivF {n k : Int} (hk : 1 ≤ k) : (n.tmod k < 0 → n.tdiv k - 1 = n / k) ∧ (¬ n.tmod k < 0 → n.tdiv k = n / k) := by
 have h1 := Int.mul_tdiv_add_tmod n k
 have h2 : n.tmod k < k := Int.tmod_lt_of_pos n (by omega)
 have h3 : -k < n.tmod k := Int.lt_tmod_of_pos n (by omega)
 constructor
 ·intro h
  have := (Int.ediv_emod_unique (a := n) (b := k) (r := n.tmod k + k) (q := n.tdiv k - 1) (by omega)).2 ⟨by rw [Int.mul_sub]; omega, by omega, by omega⟩
  exact this.1.symm
 ·intro h
  have := (Int.ediv_emod_unique (a := n) (b := k) (r := n.tmod k) (q := n.tdiv k) (by omega)).2 ⟨by omega, by omega, h2⟩
  exact this.1.symm
set_option maxRecDepth 100000 in
set_option maxHeartbeats 1000000 in
theorem yFloor_ok (n k : Int) (hk : 1 ≤ k) (hn : -4000000000000000000 ≤ n ∧ n ≤ 4000000000000000000) : FnOk Try.prog 67 [mA n, mA k] (fun q => q = mA (n / k)) := by
 have hb := tdiv_bd hn k
 have hf := fdivF (n := n) hk
 refine fnOk_of (fn := Try.f67) 16 (by kernel_rfl) rfl (by kernel_rfl) (Nat.le_of_ble_eq_true rfl) ?_
 intro e_0 m_0 hA hm_0
 have s0_0 : evA e_0 (.tmp 0) = _ := hA 0 _ rfl
 have s1_0 : evA e_0 (.tmp 1) = _ := hA 1 _ rfl
 have ml_0 : m_0.length = 0 := by rw [hm_0]; rfl
 clear hA hm_0
 refine aw_seq <| at_ <| ar (ro_assign ev_c) rfl <| ae2 (up_m rfl s0_0) (up_m rfl s1_0) ?_; clear s0_0 s1_0; intro e_1 s0_1 s1_1
 refine then_n <| aw_seq <| at_ <| ar (ro_move s0_1) rfl <| ar (ro_move (up_m rfl s1_1)) rfl ?_
 (refine ar (ro_quo' (up_m rfl up_h) up_h (by omega) ?_) rfl ?_; · (unfold In64; omega))
 refine ar (ro_assign up_h) rfl <| ae3 (u4 rfl s0_1) (u4 rfl s1_1) up_h ?_; clear s0_1 s1_1; intro e_2 s0_2 s1_2 s5_2
 refine then_n <| aw_seq <| aw_seq <| at_ <| ar (ro_move s0_2) rfl <| ar (ro_move (up_m rfl s1_2)) rfl <| ar (ro_rem (up_m rfl up_h) up_h (by omega)) rfl ?_
 refine ar (ro_lss up_h ev_c) rfl <| ae2 (u4 rfl s5_2) up_h ?_; clear s0_2 s1_2 s5_2; intro e_3 s5_3 s12_3
 refine then_n <| aw_case s12_3 (fun hq_4 => ?_) (fun hq_4 => ?_)
 ·replace hq_4 := bt hq_4
  refine at_ <| ar (ro_move s5_3) rfl ?_
  (refine ar (ro_sub' up_h ev_c ?_) rfl ?_; · (unfold In64; omega))
  refine ar (ro_assign up_h) rfl <| ae1 up_h ?_; clear s12_3 s5_3; intro e_5 s5_5
  refine then_n <| aw_seq <| at_ <| ar (ro_move s5_5) rfl <| ar (ro_assign up_h) rfl <| ae1 up_h ?_; clear s5_5; intro e_6 s4_6
  refine then_n <| aw_ret <| ret1 (.inr rfl) (by kernel_rfl) (resV_tmp s4_6) (.ro _ rfl) ?_
  clear s4_6 ml_0
  (refine avj ?_; exact hf.1 (by assumption))
 replace hq_4 := bf hq_4
 refine aw_skip <| then_n <| aw_seq <| at_ <| ar (ro_move s5_3) rfl <| ar (ro_assign up_h) rfl <| ae1 up_h ?_; clear s12_3 s5_3; intro e_7 s4_7
 refine then_n <| aw_ret <| ret1 (.inr rfl) (by kernel_rfl) (resV_tmp s4_7) (.ro _ rfl) ?_
 clear s4_7 ml_0
 (refine avj ?_; exact hf.2 (by assumption))
def addAt (ws : List Int) (i : Nat) (d : Int) : List Int := ws.set i (ws.getD i default + d)
def subAt (ws : List Int) (i : Nat) (d : Int) : List Int := ws.set i (ws.getD i default - d)
theorem addAt_f (ws : List Int) (i : Nat) (d : Int) : ws.set i (ws.getD i default + d) = addAt ws i d := rfl
theorem subAt_f (ws : List Int) (i : Nat) (d : Int) : ws.set i (ws.getD i default - d) = subAt ws i d := rfl
def absP (ws : List Int) : Nat → Nat
 | 0 => 0
 | n + 1 => absP ws n + (ws.getD n default).natAbs
theorem absP_mono {ws : List Int} {m : Nat} : ∀ {n : Nat}, m ≤ n → absP ws m ≤ absP ws n
 | 0, h => by
  obtain rfl : m = 0 := by omega
  exact Nat.le_refl _
 | n + 1, h => by
  by_cases hm : m = n + 1
  ·subst hm; exact Nat.le_refl _
  ·have := absP_mono (ws := ws) (m := m) (n := n) (by omega)
   simp only [absP]; omega
theorem absP_get {ws : List Int} {n i : Nat} (h : i < n) : (ws.getD i default).natAbs ≤ absP ws n := by
 have := absP_mono (ws := ws) (m := i + 1) (n := n) (by omega)
 simp only [absP] at this; omega
theorem getD_setW (ws : List Int) (i j : Nat) (v : Int) : (ws.set i v).getD j default = if i = j ∧ j < ws.length then v else ws.getD j default := by
 rw [List.getD_eq_getElem?_getD, List.getElem?_set]
 by_cases h : i = j
 ·subst h
  by_cases hl : i < ws.length
  ·simp [hl]
  ·simp [hl]
 ·simp [h]
theorem absP_set (ws : List Int) (i : Nat) (v : Int) : ∀ n : Nat, absP (ws.set i v) n ≤ absP ws n + if i < n then (v - ws.getD i default).natAbs else 0
 | 0 => by simp [absP]
 | n + 1 => by
  have ih := absP_set ws i v n
  simp only [absP]
  rw [getD_setW]
  by_cases h : i = n
  ·subst h
   rw [if_neg (by omega)] at ih
   rw [if_pos (show i < i + 1 by omega)]
   split <;> omega
  ·rw [if_neg (fun hc => h hc.1)]
   by_cases h2 : i < n
   ·rw [if_pos h2] at ih; rw [if_pos (by omega)]; omega
   ·rw [if_neg h2] at ih; rw [if_neg (by omega)]; omega
theorem absP_add {ws : List Int} {i n A B : Nat} {d : Int} (h : absP ws n ≤ A) (hd : d.natAbs ≤ B) : absP (addAt ws i d) n ≤ A + B := by
 have := absP_set ws i (ws.getD i default + d) n
 unfold addAt
 split at this <;> omega
theorem absP_sub {ws : List Int} {i n A B : Nat} {d : Int} (h : absP ws n ≤ A) (hd : d.natAbs ≤ B) : absP (subAt ws i d) n ≤ A + B := by
 have := absP_set ws i (ws.getD i default - d) n
 unfold subAt
 split at this <;> omega
theorem absP_rep (m : Nat) : ∀ n : Nat, absP (List.replicate m 0) n = 0
 | 0 => rfl
 | n + 1 => by
  simp only [absP, absP_rep m n]
  rw [List.getD_eq_getElem?_getD, List.getElem?_replicate]
  split <;> rfl
theorem len_addAt (ws : List Int) (i : Nat) (d : Int) : (addAt ws i d).length = ws.length := by simp [addAt]
theorem len_subAt (ws : List Int) (i : Nat) (d : Int) : (subAt ws i d).length = ws.length := by simp [subAt]
def devD (l : Lin) (L p : Int) : Int := (l.bs.getD (atI l p) default).len * (l.bs.getD (atI l (p + L)) default).len * L
def wts1 (l : Lin) (L p : Int) (j : Nat) : List Int := addAt (List.replicate l.js.length 0) j (devD l L p)
def wts2 (l : Lin) (L p : Int) (j : Nat) : List Int := subAt (wts1 l L p j) (atI l p) ((L - (plaP l.bs j - p)) * ((l.bs.getD (atI l p) default).len - atD l p) * (l.bs.getD (atI l (p + L)) default).len)
def wts3 (l : Lin) (L p : Int) (j : Nat) : List Int := subAt (wts2 l L p j) (atI l p + 1) ((L - (plaP l.bs j - p)) * atD l p * (l.bs.getD (atI l (p + L)) default).len)
def wts4 (l : Lin) (L p : Int) (j : Nat) : List Int := subAt (wts3 l L p j) (atI l (p + L)) ((plaP l.bs j - p) * ((l.bs.getD (atI l (p + L)) default).len - atD l (p + L)) * (l.bs.getD (atI l p) default).len)
def wtsL (l : Lin) (L p : Int) (j : Nat) : List Int := subAt (wts4 l L p j) (atI l (p + L) + 1) ((plaP l.bs j - p) * atD l (p + L) * (l.bs.getD (atI l p) default).len)
theorem len_wts1 {l : Lin} {L p : Int} {j : Nat} : (wts1 l L p j).length = l.js.length := by simp [wts1, len_addAt]
theorem len_wts2 {l : Lin} {L p : Int} {j : Nat} : (wts2 l L p j).length = l.js.length := by simp [wts2, len_subAt, len_wts1]
theorem len_wts3 {l : Lin} {L p : Int} {j : Nat} : (wts3 l L p j).length = l.js.length := by simp [wts3, len_subAt, len_wts2]
theorem len_wts4 {l : Lin} {L p : Int} {j : Nat} : (wts4 l L p j).length = l.js.length := by simp [wts4, len_subAt, len_wts3]
theorem len_wts {l : Lin} {L p : Int} {j : Nat} : (wtsL l L p j).length = l.js.length := by simp [wtsL, len_subAt, len_wts4]
structure Pos (l : Lin) (L p : Int) (j : Nat) : Prop where
 L0 : 1000 ≤ L
 L1 : L ≤ 30000
 p0 : 0 ≤ p
 p1 : p + L ≤ plaP l.bs l.bs.length
 j0 : p ≤ plaP l.bs j
 j1 : plaP l.bs j ≤ p + L
 jn : j < l.js.length
theorem Pos.bd {l : Lin} (h : Rgt l) {L p : Int} {j : Nat} (q : Pos l L p j) : 1 ≤ devD l L p ∧ devD l L p ≤ 27000000000000 ∧ ((L - (plaP l.bs j - p)) * ((l.bs.getD (atI l p) default).len - atD l p) * (l.bs.getD (atI l (p + L)) default).len).natAbs ≤ 27000000000000 ∧
 ((L - (plaP l.bs j - p)) * atD l p * (l.bs.getD (atI l (p + L)) default).len).natAbs ≤ 27000000000000 ∧ ((plaP l.bs j - p) * ((l.bs.getD (atI l (p + L)) default).len - atD l (p + L)) * (l.bs.getD (atI l p) default).len).natAbs ≤ 27000000000000 ∧ ((plaP l.bs j - p) * atD l (p + L) * (l.bs.getD (atI l p) default).len).natAbs ≤ 27000000000000 := by
 obtain ⟨L0, L1, p0, p1, j0, j1, jn⟩ := q
 obtain ⟨a1, a2, a3⟩ := at_bd h (p := p) ⟨p0, by omega⟩
 obtain ⟨b1, b2, b3⟩ := at_bd h (p := p + L) ⟨by omega, p1⟩
 have c1 := h.bea _ a1
 have c2 := h.bea _ b1
 have t : ∀ {x y z : Int}, x.natAbs ≤ 30000 → y.natAbs ≤ 30000 → z.natAbs ≤ 30000 → (x * y * z).natAbs ≤ 27000000000000 := fun h1 h2 h3 => mul_in (30000 * 30000) 30000 (mul_in 30000 30000 h1 h2) h3
 have d0 := t (x := (l.bs.getD (atI l p) default).len) (y := (l.bs.getD (atI l (p + L)) default).len) (z := L) (by omega) (by omega) (by omega)
 have d1 : 0 < devD l L p := Int.mul_pos (Int.mul_pos (by omega) (by omega)) (by omega)
 refine ⟨by omega, by unfold devD at d1 ⊢; omega, t (by omega) (by omega) (by omega), t (by omega) (by omega) (by omega), t (by omega) (by omega) (by omega), t (by omega) (by omega) (by omega)⟩
theorem Pos.abs {l : Lin} (h : Rgt l) {L p : Int} {j : Nat} (q : Pos l L p j) : absP (wts1 l L p j) l.js.length ≤ 27000000000000 ∧ absP (wts2 l L p j) l.js.length ≤ 54000000000000 ∧ absP (wts3 l L p j) l.js.length ≤ 81000000000000 ∧ absP (wts4 l L p j) l.js.length ≤ 108000000000000 ∧ absP (wtsL l L p j) l.js.length ≤ 135000000000000 := by
 obtain ⟨d0, d1, d2, d3, d4, d5⟩ := q.bd h
 have e0 : absP (List.replicate l.js.length 0) l.js.length ≤ 0 := by rw [absP_rep]; exact Nat.le_refl _
 have e1 : absP (wts1 l L p j) l.js.length ≤ 0 + 27000000000000 := absP_add e0 (by omega)
 have e2 : absP (wts2 l L p j) l.js.length ≤ 0 + 27000000000000 + 27000000000000 := absP_sub e1 d2
 have e3 : absP (wts3 l L p j) l.js.length ≤ 0 + 27000000000000 + 27000000000000 + 27000000000000 := absP_sub e2 d3
 have e4 : absP (wts4 l L p j) l.js.length ≤ 0 + 27000000000000 + 27000000000000 + 27000000000000 + 27000000000000 := absP_sub e3 d4
 have e5 : absP (wtsL l L p j) l.js.length ≤ 0 + 27000000000000 + 27000000000000 + 27000000000000 + 27000000000000 + 27000000000000 := absP_sub e4 d5
 omega
def devS (f : Int → Jnt → Int) (ws : List Int) (js : List Jnt) : Nat → Int
 | 0 => 0
 | n + 1 => devS f ws js n + f (ws.getD n default) (js.getD n default)
def loF (w : Int) (j : Jnt) : Int := w * j.acr + min (w * j.lo) (w * j.hi)
def hiF (w : Int) (j : Jnt) : Int := w * j.acr + max (w * j.lo) (w * j.hi)
theorem fF_bd {w : Int} {j : Jnt} {A : Nat} (hw : w.natAbs ≤ A) (h1 : -20000 ≤ j.acr ∧ j.acr ≤ 20000) (h2 : -100 ≤ j.lo ∧ j.hi ≤ 100 ∧ j.lo ≤ j.hi) : (loF w j).natAbs ≤ 20100 * A ∧ (hiF w j).natAbs ≤ 20100 * A ∧ (w * j.acr).natAbs ≤ A * 20000 ∧ (w * j.lo).natAbs ≤ A * 100 ∧ (w * j.hi).natAbs ≤ A * 100 := by
 have m1 := mul_in (x := w) (y := j.acr) A 20000 hw (by omega)
 have m2 := mul_in (x := w) (y := j.lo) A 100 hw (by omega)
 have m3 := mul_in (x := w) (y := j.hi) A 100 hw (by omega)
 unfold loF hiF
 omega
theorem devS_bd {l : Lin} (h : Rgt l) {f : Int → Jnt → Int} (hf : f = loF ∨ f = hiF) {ws : List Int} : ∀ {n : Nat}, n ≤ l.js.length → (devS f ws l.js n).natAbs ≤ 20100 * absP ws n
 | 0, _ => by simp [devS]
 | n + 1, hn => by
  have ih := devS_bd h hf (ws := ws) (n := n) (by omega)
  have j1 := h.jnt n (by omega)
  have := fF_bd (w := ws.getD n default) (j := l.js.getD n default) (Nat.le_refl _) j1.1 ⟨j1.2.2.1, j1.2.2.2.1, j1.2.2.2.2⟩
  simp only [devS, absP]
  rcases hf with rfl | rfl <;> omega
def devLo (l : Lin) (L p : Int) (j : Nat) : Int := devS loF (wtsL l L p j) l.js l.js.length / devD l L p
def devHi (l : Lin) (L p : Int) (j : Nat) : Int := -(-devS hiF (wtsL l L p j) l.js l.js.length / devD l L p)
theorem y25_hcf64 : ∀ args w, (callFunc 64 args).run Try.prog w = .ok (.enter 64 args) w := fun _ _ => by kernel_rfl
theorem y25_hcf67 : ∀ args w, (callFunc 67 args).run Try.prog w = .ok (.enter 67 args) w := fun _ _ => by kernel_rfl
theorem y25_sl22 : SlIs Try.prog 22 66 4 32 (.agg #[.int .i64 0, .int .i64 0, .int .i64 0, .int .i64 0]) := ⟨by kernel_rfl, by kernel_rfl, by kernel_rfl⟩
theorem y25_sl23 : SlIs Try.prog 23 69 2 16 (.agg #[.int .i64 0, .int .i64 0]) := ⟨by kernel_rfl, by kernel_rfl, by kernel_rfl⟩
theorem y25_sl40 : SlIs Try.prog 40 3 1 8 (.int .i64 0) := ⟨by kernel_rfl, by kernel_rfl, by kernel_rfl⟩
theorem y25_ty22 : TyIs Try.prog 22 false 1 := ⟨by kernel_rfl, by kernel_rfl⟩
theorem y25_ty23 : TyIs Try.prog 23 false 1 := ⟨by kernel_rfl, by kernel_rfl⟩
theorem y25_ty3 : TyIs Try.prog 3 false 1 := ⟨by kernel_rfl, by kernel_rfl⟩
theorem y25_ty40 : TyIs Try.prog 40 false 1 := ⟨by kernel_rfl, by kernel_rfl⟩
theorem y25_ty55 : TyIs Try.prog 55 true 2 := ⟨by kernel_rfl, by kernel_rfl⟩
theorem y25_ty66 : TyIs Try.prog 66 true 4 := ⟨by kernel_rfl, by kernel_rfl⟩
theorem devD_f (l : Lin) (L p : Int) : (l.bs.getD (atI l p) default).len * (l.bs.getD (atI l (p + L)) default).len * L = devD l L p := rfl
theorem wts1_f (l : Lin) (L p : Int) (j : Nat) : addAt (List.replicate l.js.length 0) j (devD l L p) = wts1 l L p j := rfl
theorem wts2_f (l : Lin) (L p : Int) (j : Nat) : subAt (wts1 l L p j) (atI l p) ((L - (plaP l.bs j - p)) * ((l.bs.getD (atI l p) default).len - atD l p) * (l.bs.getD (atI l (p + L)) default).len) = wts2 l L p j := rfl
theorem wts3_f (l : Lin) (L p : Int) (j : Nat) : subAt (wts2 l L p j) (atI l p + 1) ((L - (plaP l.bs j - p)) * atD l p * (l.bs.getD (atI l (p + L)) default).len) = wts3 l L p j := rfl
theorem wts4_f (l : Lin) (L p : Int) (j : Nat) : subAt (wts3 l L p j) (atI l (p + L)) ((plaP l.bs j - p) * ((l.bs.getD (atI l (p + L)) default).len - atD l (p + L)) * (l.bs.getD (atI l p) default).len) = wts4 l L p j := rfl
theorem wtsL_f (l : Lin) (L p : Int) (j : Nat) : subAt (wts4 l L p j) (atI l (p + L) + 1) ((plaP l.bs j - p) * atD l (p + L) * (l.bs.getD (atI l p) default).len) = wtsL l L p j := rfl
theorem nat2 {x : Int} {A : Nat} (h : x.natAbs ≤ A) : -(A : Int) ≤ x ∧ x ≤ A := by omega
theorem ediv_bd {n k : Int} (hk : 1 ≤ k) (hn : -4000000000000000000 ≤ n ∧ n ≤ 4000000000000000000) : -4000000000000000001 ≤ n / k ∧ n / k ≤ 4000000000000000000 := by
 have hb := tdiv_bd hn k
 have hf := fdivF (n := n) hk
 by_cases h : n.tmod k < 0
 ·have := hf.1 h; omega
 ·have := hf.2 h; omega
theorem dev_in {l : Lin} (h : Rgt l) {f : Int → Jnt → Int} (hf : f = loF ∨ f = hiF) {ws : List Int} {A : Nat} (hw : absP ws l.js.length ≤ A) {n : Nat} (hn : n ≤ l.js.length) : -(20100 * (A : Int)) ≤ devS f ws l.js n ∧ devS f ws l.js n ≤ 20100 * (A : Int) := by
 have h1 := devS_bd h hf (ws := ws) hn
 have h2 := absP_mono (ws := ws) hn
 omega
set_option maxRecDepth 100000 in
set_option maxHeartbeats 4000000 in
theorem deviation_ok (l : Lin) (h : Rgt l) (L c s p : Int) (j : Nat) (q : Pos l L p j) : FnOk Try.prog 48 [tkA l, vehA L c s, mA p, mA j] (fun q => q = .agg [mA (devLo l L p j), mA (devHi l L p j)]) := by
 refine fnOk_of (fn := Try.f48) 204 (by kernel_rfl) rfl (by kernel_rfl) (Nat.le_of_ble_eq_true rfl) ?_
 intro e_0 m_0 hA hm_0
 have s0_0 : evA e_0 (.tmp 0) = _ := hA 0 _ rfl
 have s1_0 : evA e_0 (.tmp 1) = _ := hA 1 _ rfl
 have s2_0 : evA e_0 (.tmp 2) = _ := hA 2 _ rfl
 have s3_0 : evA e_0 (.tmp 3) = _ := hA 3 _ rfl
 have ml_0 : m_0.length = 0 := by rw [hm_0]; rfl
 clear hA hm_0
 have hn1 := h.n1; have hn0 := h.n0; have hjs := h.js; obtain ⟨L0, L1, p0, p1, j0, j1, jn⟩ := id q; obtain ⟨a1, a2, a3⟩ := at_bd h (p := p) ⟨p0, by omega⟩; obtain ⟨b1, b2, b3⟩ := at_bd h (p := p + L) ⟨by omega, p1⟩; have c1 := h.bea _ a1; have c2 := h.bea _ b1; have hpl := plaL_len (bs := l.bs) (n := l.bs.length); have hpb := h.pla (n := l.bs.length) (Nat.le_refl _); have hpj := h.pla (n := j) (by omega); have hgj := plaL_get (bs := l.bs) (n := l.bs.length) (j := j) (by omega); obtain ⟨d0, d1, d2, d3, d4, d5⟩ := q.bd h; replace d2 := nat2 d2; replace d3 := nat2 d3; replace d4 := nat2 d4; replace d5 := nat2 d5; obtain ⟨s1, s2, s3, s4, s5⟩ := q.abs h; have m1 := nat2 (mul_in (x := (l.bs.getD (atI l p) default).len) (y := (l.bs.getD (atI l (p + L)) default).len) 30000 30000 (by omega) (by omega)); have m2 := nat2 (mul_in (x := L - (plaP l.bs j - p)) (y := (l.bs.getD (atI l p) default).len - atD l p) 30000 30000 (by omega) (by omega)); have m3 := nat2 (mul_in (x := L - (plaP l.bs j - p)) (y := atD l p) 30000 30000 (by omega) (by omega)); have m4 := nat2 (mul_in (x := plaP l.bs j - p) (y := (l.bs.getD (atI l (p + L)) default).len - atD l (p + L)) 30000 30000 (by omega) (by omega)); have m5 := nat2 (mul_in (x := plaP l.bs j - p) (y := atD l (p + L)) 30000 30000 (by omega) (by omega)); have hdd : (l.bs.getD (atI l p) default).len * (l.bs.getD (atI l (p + L)) default).len * L = devD l L p := rfl; have g0 : (List.replicate l.js.length (0 : Int)).getD j default = 0 := (by simp [jn]); have g2 := nat2 (Nat.le_trans (absP_get (ws := wts1 l L p j) (n := l.js.length) (i := atI l p) (by omega)) s1); have g3 := nat2 (Nat.le_trans (absP_get (ws := wts2 l L p j) (n := l.js.length) (i := atI l p + 1) (by omega)) s2); have g4 := nat2 (Nat.le_trans (absP_get (ws := wts3 l L p j) (n := l.js.length) (i := atI l (p + L)) (by omega)) s3); have g5 := nat2 (Nat.le_trans (absP_get (ws := wts4 l L p j) (n := l.js.length) (i := atI l (p + L) + 1) (by omega)) s4); have k0 : (List.replicate l.js.length (0 : Int)).length = l.js.length := (by simp); have k1 := len_wts1 (l := l) (L := L) (p := p) (j := j); have k2 := len_wts2 (l := l) (L := L) (p := p) (j := j); have k3 := len_wts3 (l := l) (L := L) (p := p) (j := j); have k4 := len_wts4 (l := l) (L := L) (p := p) (j := j); have k5 := len_wts (l := l) (L := L) (p := p) (j := j)
 refine aw_seq <| at_ <| al_stm (st_box s1_0 rfl ml_0) trivial rfl (fun m_1 hm_1 => ?_)
 have mo0_1 := m_push hm_1 ml_0
 have ml_1 := m_push_l hm_1 ml_0
 have ml_1 : _ = 1 := ml_1
 clear hm_1
 refine al_stm (st_alloc qaz55 rfl ml_1) trivial rfl (fun m_2 hm_2 => ?_)
 have mo1_2 := m_push hm_2 ml_1
 simp only [pS, Value.cells, Nat.reduceAdd, jnE, beE, Int.toNat_natCast, toNat_suc, rep_iE, set_iE, hgj, addAt_f, subAt_f, devD_f, wts1_f, wts2_f, wts3_f, wts4_f, wtsL_f] at mo1_2
 have mo0_2 := m_push_o hm_2 mo0_1
 have ml_2 := m_push_l hm_2 ml_1
 have ml_2 : _ = 2 := ml_2
 clear hm_2 mo0_1
 refine ae5 (u2 rfl s0_0) (u2 rfl s2_0) (u2 rfl s3_0) (up_m rfl up_h) up_h ?_; clear s0_0 s1_0 s2_0 s3_0; intro e_3 s0_3 s2_3 s3_3 s5_3 s8_3
 refine then_n <| aw_seq <| at_ <| ar (ro_move s0_3) rfl <| ar (ro_move (up_m rfl s2_3)) rfl <| ar (ro_call (evL_cons (up_m rfl up_h) (evL_cons up_h evL_nil)) rfl (atX_ok l h p ⟨p0, by omega⟩) y25_hcf64) rfl ?_
 refine ar (ro_move up_h) rfl <| ar (ro_extract up_h rfl) rfl <| ar (ro_extract (up_m rfl up_h) rfl) rfl <| ar (ro_assign (up_m rfl up_h)) rfl <| ar (ro_assign (up_m rfl up_h)) rfl <| ae7 (u8 rfl s0_3) (u8 rfl s2_3) (u8 rfl s3_3) (u8 rfl s5_3) (u8 rfl s8_3) (up_m rfl up_h) up_h ?_; clear s0_3 s2_3 s3_3 s5_3 s8_3; intro e_4 s0_4 s2_4 s3_4 s5_4 s8_4 s9_4 s10_4
 refine then_n <| aw_seq <| at_ <| ar (ro_move s0_4) rfl <| ar (ro_move (up_m rfl s2_4)) rfl <| ar (ro_fld_ptr qfl59_0 rfl (u2 rfl s5_4)) rfl <| ar (ro_eq (ro_ld_ptr y25_ty3 rfl mo0_2 up_h (nle rfl)) (by simp only [pS, Value.cells, Nat.reduceAdd, jnE, beE, Int.toNat_natCast, toNat_suc, rep_iE, set_iE, hgj, addAt_f, subAt_f, devD_f, wts1_f, wts2_f, wts3_f, wts4_f, wtsL_f] <;> rfl)) rfl ?_
 (refine ar (ro_add' (u2 rfl up_h) up_h ?_) rfl ?_; · (unfold In64; omega))
 refine ar (ro_call (evL_cons (u4 rfl up_h) (evL_cons up_h evL_nil)) rfl (atX_ok l h (p + L) ⟨by omega, p1⟩) y25_hcf64) rfl ?_
 refine ar (ro_move up_h) rfl <| ar (ro_extract up_h rfl) rfl <| ar (ro_extract (up_m rfl up_h) rfl) rfl <| ar (ro_assign (up_m rfl up_h)) rfl <| ar (ro_assign (up_m rfl up_h)) rfl <| ae9 (up_m rfl (u2 rfl (u8 rfl s0_4))) (up_m rfl (u2 rfl (u8 rfl s2_4))) (up_m rfl (u2 rfl (u8 rfl s3_4))) (up_m rfl (u2 rfl (u8 rfl s5_4))) (up_m rfl (u2 rfl (u8 rfl s8_4))) (up_m rfl (u2 rfl (u8 rfl s9_4))) (up_m rfl (u2 rfl (u8 rfl s10_4))) (up_m rfl up_h) up_h ?_; clear s0_4 s10_4 s2_4 s3_4 s5_4 s8_4 s9_4; intro e_5 s0_5 s2_5 s3_5 s5_5 s8_5 s9_5 s10_5 s11_5 s12_5
 refine then_n <| aw_seq <| at_ <| ar (ro_move s0_5) rfl <| ar (ro_nilR up_h) rfl <| ar (ro_eq (ro_fld_ref qfl83_1 rfl up_h) (by simp only [pS, Value.cells, Nat.reduceAdd, jnE, beE, Int.toNat_natCast, toNat_suc, rep_iE, set_iE, hgj, addAt_f, subAt_f, devD_f, wts1_f, wts2_f, wts3_f, wts4_f, wtsL_f] <;> rfl)) rfl ?_
 refine ar (ro_eq (ro_ld_ref y25_ty40 rfl up_h (nle rfl)) (by simp only [pS, Value.cells, Nat.reduceAdd, jnE, beE, Int.toNat_natCast, toNat_suc, rep_iE, set_iE, hgj, addAt_f, subAt_f, devD_f, wts1_f, wts2_f, wts3_f, wts4_f, wtsL_f] <;> rfl)) rfl ?_
 refine ar (ro_move (u4 rfl s3_5)) rfl <| ar (ro_eq (ro_ix y25_sl40 (up_m rfl up_h) up_h (by omega) (by first | (refine idx_map ?_; first | omega | (simp only [lnS]; omega)) | (refine idx_mapI ?_; first | omega | (simp only [lnS]; omega)) | (refine idx_mapN ?_; first | omega | (simp only [lnS]; omega)) | rfl)) (by simp only [pS, Value.cells, Nat.reduceAdd, jnE, beE, Int.toNat_natCast, toNat_suc, rep_iE, set_iE, hgj, addAt_f, subAt_f, devD_f, wts1_f, wts2_f, wts3_f, wts4_f, wtsL_f] <;> rfl)) rfl ?_
 refine ar (ro_eq (ro_ld_ref y25_ty3 rfl up_h (nle rfl)) (by simp only [pS, Value.cells, Nat.reduceAdd, jnE, beE, Int.toNat_natCast, toNat_suc, rep_iE, set_iE, hgj, addAt_f, subAt_f, devD_f, wts1_f, wts2_f, wts3_f, wts4_f, wtsL_f] <;> rfl)) rfl ?_
 refine ar (ro_move (up_m rfl (u2 rfl (u4 rfl s2_5)))) rfl ?_
 (refine ar (ro_sub' (up_m rfl up_h) up_h ?_) rfl ?_; · (unfold In64; omega))
 refine ar (ro_assign up_h) rfl <| ae9 (u2 rfl (u8 rfl s0_5)) (u2 rfl (u8 rfl s3_5)) (u2 rfl (u8 rfl s5_5)) (u2 rfl (u8 rfl s8_5)) (u2 rfl (u8 rfl s9_5)) (u2 rfl (u8 rfl s10_5)) (u2 rfl (u8 rfl s11_5)) (u2 rfl (u8 rfl s12_5)) up_h ?_; clear s0_5 s10_5 s11_5 s12_5 s2_5 s3_5 s5_5 s8_5 s9_5; intro e_6 s0_6 s3_6 s5_6 s8_6 s9_6 s10_6 s11_6 s12_6 s13_6
 refine then_n <| aw_seq <| aw_draw 20 (by kernel_rfl) (by kernel_rfl) (by kernel_rfl) (by kernel_rfl) ?_
 refine dr (ro_move s0_6) rfl <| dr (ro_nilR up_h) rfl <| dr (ro_eq (ro_fld_ref qfl83_0 rfl up_h) (by simp only [pS, Value.cells, Nat.reduceAdd, jnE, beE, Int.toNat_natCast, toNat_suc, rep_iE, set_iE, hgj, addAt_f, subAt_f, devD_f, wts1_f, wts2_f, wts3_f, wts4_f, wtsL_f] <;> rfl)) rfl ?_
 refine dr (ro_eq (ro_fld_ref qfl26_2 rfl up_h) (by simp only [pS, Value.cells, Nat.reduceAdd, jnE, beE, Int.toNat_natCast, toNat_suc, rep_iE, set_iE, hgj, addAt_f, subAt_f, devD_f, wts1_f, wts2_f, wts3_f, wts4_f, wtsL_f] <;> rfl)) rfl ?_
 refine dr (ro_eq (ro_ld_ref y25_ty23 rfl up_h (nle rfl)) (by simp only [pS, Value.cells, Nat.reduceAdd, jnE, beE, Int.toNat_natCast, toNat_suc, rep_iE, set_iE, hgj, addAt_f, subAt_f, devD_f, wts1_f, wts2_f, wts3_f, wts4_f, wtsL_f] <;> rfl)) rfl ?_
 refine dr (ro_move (up_m rfl (u4 rfl s9_6))) rfl <| dr (ro_eq (ro_ix y25_sl23 (up_m rfl up_h) up_h (by omega) (by first | (refine idx_map ?_; first | omega | (simp only [lnS]; omega)) | (refine idx_mapI ?_; first | omega | (simp only [lnS]; omega)) | (refine idx_mapN ?_; first | omega | (simp only [lnS]; omega)) | rfl)) (by simp only [pS, Value.cells, Nat.reduceAdd, jnE, beE, Int.toNat_natCast, toNat_suc, rep_iE, set_iE, hgj, addAt_f, subAt_f, devD_f, wts1_f, wts2_f, wts3_f, wts4_f, wtsL_f] <;> rfl)) rfl ?_
 refine dr (ro_eq (ro_fld_ref qfl69_0 rfl up_h) (by simp only [pS, Value.cells, Nat.reduceAdd, jnE, beE, Int.toNat_natCast, toNat_suc, rep_iE, set_iE, hgj, addAt_f, subAt_f, devD_f, wts1_f, wts2_f, wts3_f, wts4_f, wtsL_f] <;> rfl)) rfl ?_
 refine dr (ro_eq (ro_ld_ref y25_ty3 rfl up_h (nle rfl)) (by simp only [pS, Value.cells, Nat.reduceAdd, jnE, beE, Int.toNat_natCast, toNat_suc, rep_iE, set_iE, hgj, addAt_f, subAt_f, devD_f, wts1_f, wts2_f, wts3_f, wts4_f, wtsL_f] <;> rfl)) rfl ?_
 refine dr (ro_move (up_m rfl (u8 rfl s0_6))) rfl <| dr (ro_nilR up_h) rfl <| dr (ro_eq (ro_fld_ref qfl83_0 rfl up_h) (by simp only [pS, Value.cells, Nat.reduceAdd, jnE, beE, Int.toNat_natCast, toNat_suc, rep_iE, set_iE, hgj, addAt_f, subAt_f, devD_f, wts1_f, wts2_f, wts3_f, wts4_f, wtsL_f] <;> rfl)) rfl ?_
 refine dr (ro_eq (ro_fld_ref qfl26_2 rfl up_h) (by simp only [pS, Value.cells, Nat.reduceAdd, jnE, beE, Int.toNat_natCast, toNat_suc, rep_iE, set_iE, hgj, addAt_f, subAt_f, devD_f, wts1_f, wts2_f, wts3_f, wts4_f, wtsL_f] <;> rfl)) rfl ?_
 refine dr (ro_eq (ro_ld_ref y25_ty23 rfl up_h (nle rfl)) (by simp only [pS, Value.cells, Nat.reduceAdd, jnE, beE, Int.toNat_natCast, toNat_suc, rep_iE, set_iE, hgj, addAt_f, subAt_f, devD_f, wts1_f, wts2_f, wts3_f, wts4_f, wtsL_f] <;> rfl)) rfl ?_
 refine dr (ro_move (u2 rfl (u4 rfl (u8 rfl s11_6)))) rfl <| dr (ro_eq (ro_ix y25_sl23 (up_m rfl up_h) up_h (by omega) (by first | (refine idx_map ?_; first | omega | (simp only [lnS]; omega)) | (refine idx_mapI ?_; first | omega | (simp only [lnS]; omega)) | (refine idx_mapN ?_; first | omega | (simp only [lnS]; omega)) | rfl)) (by simp only [pS, Value.cells, Nat.reduceAdd, jnE, beE, Int.toNat_natCast, toNat_suc, rep_iE, set_iE, hgj, addAt_f, subAt_f, devD_f, wts1_f, wts2_f, wts3_f, wts4_f, wtsL_f] <;> rfl)) rfl ?_
 refine dr (ro_eq (ro_fld_ref qfl69_0 rfl up_h) (by simp only [pS, Value.cells, Nat.reduceAdd, jnE, beE, Int.toNat_natCast, toNat_suc, rep_iE, set_iE, hgj, addAt_f, subAt_f, devD_f, wts1_f, wts2_f, wts3_f, wts4_f, wtsL_f] <;> rfl)) rfl ?_
 refine dr (ro_eq (ro_ld_ref y25_ty3 rfl up_h (nle rfl)) (by simp only [pS, Value.cells, Nat.reduceAdd, jnE, beE, Int.toNat_natCast, toNat_suc, rep_iE, set_iE, hgj, addAt_f, subAt_f, devD_f, wts1_f, wts2_f, wts3_f, wts4_f, wtsL_f] <;> rfl)) rfl ?_
 refine dr (ro_assign (up_m rfl (u8 rfl up_h))) rfl <| dr (ro_assign (up_m rfl up_h)) rfl <| ds_nil <| ae11 (u4 rfl (u16 rfl s0_6)) (u4 rfl (u16 rfl s3_6)) (u4 rfl (u16 rfl s5_6)) (u4 rfl (u16 rfl s8_6)) (u4 rfl (u16 rfl s9_6)) (u4 rfl (u16 rfl s10_6)) (u4 rfl (u16 rfl s11_6)) (u4 rfl (u16 rfl s12_6)) (u4 rfl (u16 rfl s13_6)) (up_m rfl up_h) up_h ?_; clear s0_6 s10_6 s11_6 s12_6 s13_6 s3_6 s5_6 s8_6 s9_6; intro e_7 s0_7 s3_7 s5_7 s8_7 s9_7 s10_7 s11_7 s12_7 s13_7 s14_7 s15_7
 refine then_n <| aw_seq <| at_ <| ar (ro_move s14_7) rfl <| ar (ro_move (up_m rfl s15_7)) rfl ?_
 (refine ar (ro_mul' (up_m rfl up_h) up_h ?_) rfl ?_; · (unfold In64; omega))
 refine ar (ro_fld_ptr qfl59_0 rfl (up_m rfl (u2 rfl s5_7))) rfl <| ar (ro_eq (ro_ld_ptr y25_ty3 rfl mo0_2 up_h (nle rfl)) (by simp only [pS, Value.cells, Nat.reduceAdd, jnE, beE, Int.toNat_natCast, toNat_suc, rep_iE, set_iE, hgj, addAt_f, subAt_f, devD_f, wts1_f, wts2_f, wts3_f, wts4_f, wtsL_f] <;> rfl)) rfl ?_
 (refine ar (ro_mul' (u2 rfl up_h) up_h ?_) rfl ?_; · (unfold In64; omega))
 refine ar (ro_assign up_h) rfl <| ae12 (up_m rfl (u2 rfl (u4 rfl s0_7))) (up_m rfl (u2 rfl (u4 rfl s3_7))) (up_m rfl (u2 rfl (u4 rfl s5_7))) (up_m rfl (u2 rfl (u4 rfl s8_7))) (up_m rfl (u2 rfl (u4 rfl s9_7))) (up_m rfl (u2 rfl (u4 rfl s10_7))) (up_m rfl (u2 rfl (u4 rfl s11_7))) (up_m rfl (u2 rfl (u4 rfl s12_7))) (up_m rfl (u2 rfl (u4 rfl s13_7))) (up_m rfl (u2 rfl (u4 rfl s14_7))) (up_m rfl (u2 rfl (u4 rfl s15_7))) up_h ?_; clear s0_7 s10_7 s11_7 s12_7 s13_7 s14_7 s15_7 s3_7 s5_7 s8_7 s9_7; intro e_8 s0_8 s3_8 s5_8 s8_8 s9_8 s10_8 s11_8 s12_8 s13_8 s14_8 s15_8 s16_8
 refine then_n <| aw_seq <| at_ <| ar (ro_move s0_8) rfl <| ar (ro_nilR up_h) rfl <| ar (ro_eq (ro_fld_ref qfl83_0 rfl up_h) (by simp only [pS, Value.cells, Nat.reduceAdd, jnE, beE, Int.toNat_natCast, toNat_suc, rep_iE, set_iE, hgj, addAt_f, subAt_f, devD_f, wts1_f, wts2_f, wts3_f, wts4_f, wtsL_f] <;> rfl)) rfl ?_
 refine ar (ro_eq (ro_fld_ref qfl26_1 rfl up_h) (by simp only [pS, Value.cells, Nat.reduceAdd, jnE, beE, Int.toNat_natCast, toNat_suc, rep_iE, set_iE, hgj, addAt_f, subAt_f, devD_f, wts1_f, wts2_f, wts3_f, wts4_f, wtsL_f] <;> rfl)) rfl ?_
 refine ar (ro_eq (ro_ld_ref y25_ty22 rfl up_h (nle rfl)) (by simp only [pS, Value.cells, Nat.reduceAdd, jnE, beE, Int.toNat_natCast, toNat_suc, rep_iE, set_iE, hgj, addAt_f, subAt_f, devD_f, wts1_f, wts2_f, wts3_f, wts4_f, wtsL_f] <;> rfl)) rfl ?_
 refine ar (ro_eq (ro_len_row up_h rfl y25_sl22.1) (by simp only [lnS] <;> rfl)) rfl ?_
 refine al_stm (st_mk y25_sl40 rfl rfl ml_2 up_h up_h (by omega) (by omega)) trivial rfl (fun m_9 hm_9 => ?_)
 have mo2_9 := m_push hm_9 ml_2
 simp only [pS, Value.cells, Nat.reduceAdd, jnE, beE, Int.toNat_natCast, toNat_suc, rep_iE, set_iE, hgj, addAt_f, subAt_f, devD_f, wts1_f, wts2_f, wts3_f, wts4_f, wtsL_f] at mo2_9
 have mo1_9 := m_push_o hm_9 mo1_2
 have mo0_9 := m_push_o hm_9 mo0_2
 have ml_9 := m_push_l hm_9 ml_2
 have ml_9 : _ = 3 := ml_9
 clear hm_9 mo1_2 mo0_2
 refine ar (ro_assign up_h) rfl <| ae13 (u8 rfl s0_8) (u8 rfl s3_8) (u8 rfl s5_8) (u8 rfl s8_8) (u8 rfl s9_8) (u8 rfl s10_8) (u8 rfl s11_8) (u8 rfl s12_8) (u8 rfl s13_8) (u8 rfl s14_8) (u8 rfl s15_8) (u8 rfl s16_8) up_h ?_; clear s0_8 s10_8 s11_8 s12_8 s13_8 s14_8 s15_8 s16_8 s3_8 s5_8 s8_8 s9_8; intro e_10 s0_10 s3_10 s5_10 s8_10 s9_10 s10_10 s11_10 s12_10 s13_10 s14_10 s15_10 s16_10 s17_10
 refine then_n <| aw_seq <| at_ <| ar (ro_move s17_10) rfl <| ar (ro_move (up_m rfl s3_10)) rfl <| ar (ro_ix_own y25_sl40 mo2_9 (up_m rfl up_h) up_h (by omega) (by simp only [lnS] <;> omega)) rfl ?_
 refine ar (ro_eq (ro_ld_el y25_ty3 rfl mo2_9 up_h (nle rfl) (by first | (refine idx_map ?_; first | omega | (simp only [lnS]; omega)) | (refine idx_mapI ?_; first | omega | (simp only [lnS]; omega)) | (refine idx_mapN ?_; first | omega | (simp only [lnS]; omega)) | rfl)) (by simp only [pS, Value.cells, Nat.reduceAdd, jnE, beE, Int.toNat_natCast, toNat_suc, rep_iE, set_iE, hgj, addAt_f, subAt_f, devD_f, wts1_f, wts2_f, wts3_f, wts4_f, wtsL_f] <;> rfl)) rfl ?_
 refine ar (ro_move (u4 rfl s16_10)) rfl ?_
 (refine ar (ro_add' (up_m rfl up_h) up_h ?_) rfl ?_; · (unfold In64; omega))
 refine ar (ro_ix_own y25_sl40 mo2_9 (up_m rfl (u4 rfl up_h)) (u4 rfl up_h) (by omega) (by simp only [lnS] <;> omega)) rfl ?_
 refine al_stm (st_store_el up_h (up_m rfl up_h) rfl rfl rfl mo2_9 (Nat.add_zero _).symm (by first | (refine idx_map ?_; first | omega | (simp only [lnS]; omega)) | (refine idx_mapI ?_; first | omega | (simp only [lnS]; omega)) | (refine idx_mapN ?_; first | omega | (simp only [lnS]; omega)) | rfl) qsz3 rfl (nle rfl)) trivial rfl (fun m_11 hm_11 => ?_)
 have mo2_11 := m_set hm_11 mo2_9
 simp only [pS, Value.cells, Nat.reduceAdd, jnE, beE, Int.toNat_natCast, toNat_suc, rep_iE, set_iE, hgj, addAt_f, subAt_f, devD_f, wts1_f, wts2_f, wts3_f, wts4_f, wtsL_f] at mo2_11
 have mo1_11 := m_set_o hm_11 mo1_9 (by decide)
 have mo0_11 := m_set_o hm_11 mo0_9 (by decide)
 have ml_11 := m_set_l hm_11 ml_9
 clear hm_11 mo2_9 mo1_9 mo0_9
 refine ae12 (up_n (up_m rfl (u2 rfl (u4 rfl s0_10)))) (up_n (up_m rfl (u2 rfl (u4 rfl s5_10)))) (up_n (up_m rfl (u2 rfl (u4 rfl s8_10)))) (up_n (up_m rfl (u2 rfl (u4 rfl s9_10)))) (up_n (up_m rfl (u2 rfl (u4 rfl s10_10)))) (up_n (up_m rfl (u2 rfl (u4 rfl s11_10)))) (up_n (up_m rfl (u2 rfl (u4 rfl s12_10)))) (up_n (up_m rfl (u2 rfl (u4 rfl s13_10)))) (up_n (up_m rfl (u2 rfl (u4 rfl s14_10)))) (up_n (up_m rfl (u2 rfl (u4 rfl s15_10)))) (up_n (up_m rfl (u2 rfl (u4 rfl s16_10)))) (up_n (up_m rfl (u2 rfl (u4 rfl s17_10)))) ?_; clear s0_10 s10_10 s11_10 s12_10 s13_10 s14_10 s15_10 s16_10 s17_10 s3_10 s5_10 s8_10 s9_10; intro e_12 s0_12 s5_12 s8_12 s9_12 s10_12 s11_12 s12_12 s13_12 s14_12 s15_12 s16_12 s17_12
 refine then_n <| aw_seq <| aw_draw 16 (by kernel_rfl) (by kernel_rfl) (by kernel_rfl) (by kernel_rfl) ?_
 refine dr (ro_move s17_12) rfl <| dr (ro_move (up_m rfl s9_12)) rfl <| dr (ro_ix_own y25_sl40 mo2_11 (up_m rfl up_h) up_h (by omega) (by simp only [lnS] <;> omega)) rfl ?_
 refine dr (ro_eq (ro_ld_el y25_ty3 rfl mo2_11 up_h (nle rfl) (by first | (refine idx_map ?_; first | omega | (simp only [lnS]; omega)) | (refine idx_mapI ?_; first | omega | (simp only [lnS]; omega)) | (refine idx_mapN ?_; first | omega | (simp only [lnS]; omega)) | rfl)) (by simp only [pS, Value.cells, Nat.reduceAdd, jnE, beE, Int.toNat_natCast, toNat_suc, rep_iE, set_iE, hgj, addAt_f, subAt_f, devD_f, wts1_f, wts2_f, wts3_f, wts4_f, wtsL_f] <;> rfl)) rfl ?_
 refine dr (ro_fld_ptr qfl59_0 rfl (u4 rfl s5_12)) rfl <| dr (ro_eq (ro_ld_ptr y25_ty3 rfl mo0_11 up_h (nle rfl)) (by simp only [pS, Value.cells, Nat.reduceAdd, jnE, beE, Int.toNat_natCast, toNat_suc, rep_iE, set_iE, hgj, addAt_f, subAt_f, devD_f, wts1_f, wts2_f, wts3_f, wts4_f, wtsL_f] <;> rfl)) rfl ?_
 refine dr (ro_move (u2 rfl (u4 rfl s13_12))) rfl ?_
 (refine dr (ro_sub' (up_m rfl up_h) up_h ?_) rfl ?_; · (unfold In64; omega))
 refine dr (ro_move (u8 rfl s14_12)) rfl <| dr (ro_move (up_m rfl (u8 rfl s10_12))) rfl ?_
 (refine dr (ro_sub' (up_m rfl up_h) up_h ?_) rfl ?_; · (unfold In64; omega))
 (refine dr (ro_mul' (up_m rfl (u2 rfl up_h)) up_h ?_) rfl ?_; · (unfold In64; omega))
 refine dr (ro_move (u4 rfl (u8 rfl s15_12))) rfl ?_
 (refine dr (ro_mul' (up_m rfl up_h) up_h ?_) rfl ?_; · (unfold In64; omega))
 (refine dr (ro_sub' (u2 rfl (u8 rfl up_h)) up_h ?_) rfl ?_; · (unfold In64; omega))
 refine dr (ro_ix_own y25_sl40 mo2_11 (u2 rfl (u4 rfl (u8 rfl up_h))) (up_m rfl (u4 rfl (u8 rfl up_h))) (by omega) (by simp only [lnS] <;> omega)) rfl ?_
 refine ds_nil <| al_stm (st_store_el up_h (up_m rfl up_h) rfl rfl rfl mo2_11 (Nat.add_zero _).symm (by first | (refine idx_map ?_; first | omega | (simp only [lnS]; omega)) | (refine idx_mapI ?_; first | omega | (simp only [lnS]; omega)) | (refine idx_mapN ?_; first | omega | (simp only [lnS]; omega)) | rfl) qsz3 rfl (nle rfl)) trivial rfl (fun m_13 hm_13 => ?_)
 have mo2_13 := m_set hm_13 mo2_11
 simp only [pS, Value.cells, Nat.reduceAdd, jnE, beE, Int.toNat_natCast, toNat_suc, rep_iE, set_iE, hgj, addAt_f, subAt_f, devD_f, wts1_f, wts2_f, wts3_f, wts4_f, wtsL_f] at mo2_13
 have mo1_13 := m_set_o hm_13 mo1_11 (by decide)
 have mo0_13 := m_set_o hm_13 mo0_11 (by decide)
 have ml_13 := m_set_l hm_13 ml_11
 clear hm_13 mo2_11 mo1_11 mo0_11
 refine ae12 (up_n (u16 rfl s0_12)) (up_n (u16 rfl s5_12)) (up_n (u16 rfl s8_12)) (up_n (u16 rfl s9_12)) (up_n (u16 rfl s10_12)) (up_n (u16 rfl s11_12)) (up_n (u16 rfl s12_12)) (up_n (u16 rfl s13_12)) (up_n (u16 rfl s14_12)) (up_n (u16 rfl s15_12)) (up_n (u16 rfl s16_12)) (up_n (u16 rfl s17_12)) ?_; clear s0_12 s10_12 s11_12 s12_12 s13_12 s14_12 s15_12 s16_12 s17_12 s5_12 s8_12 s9_12; intro e_14 s0_14 s5_14 s8_14 s9_14 s10_14 s11_14 s12_14 s13_14 s14_14 s15_14 s16_14 s17_14
 refine then_n <| aw_seq <| aw_draw 15 (by kernel_rfl) (by kernel_rfl) (by kernel_rfl) (by kernel_rfl) ?_
 refine dr (ro_move s17_14) rfl <| dr (ro_move (up_m rfl s9_14)) rfl ?_
 (refine dr (ro_add' up_h ev_c ?_) rfl ?_; · (unfold In64; omega))
 refine dr (ro_ix_own y25_sl40 mo2_13 (u2 rfl up_h) up_h (by omega) (by simp only [lnS] <;> omega)) rfl ?_
 refine dr (ro_eq (ro_ld_el y25_ty3 rfl mo2_13 up_h (nle rfl) (by refine idx_map ?_; first | omega | (simp only [lnS]; omega))) (by simp only [pS, Value.cells, Nat.reduceAdd, jnE, beE, Int.toNat_natCast, toNat_suc, rep_iE, set_iE, hgj, addAt_f, subAt_f, devD_f, wts1_f, wts2_f, wts3_f, wts4_f, wtsL_f] <;> rfl)) rfl ?_
 refine dr (ro_fld_ptr qfl59_0 rfl (up_m rfl (u4 rfl s5_14))) rfl <| dr (ro_eq (ro_ld_ptr y25_ty3 rfl mo0_13 up_h (nle rfl)) (by simp only [pS, Value.cells, Nat.reduceAdd, jnE, beE, Int.toNat_natCast, toNat_suc, rep_iE, set_iE, hgj, addAt_f, subAt_f, devD_f, wts1_f, wts2_f, wts3_f, wts4_f, wtsL_f] <;> rfl)) rfl ?_
 refine dr (ro_move (up_m rfl (u2 rfl (u4 rfl s13_14)))) rfl ?_
 (refine dr (ro_sub' (up_m rfl up_h) up_h ?_) rfl ?_; · (unfold In64; omega))
 refine dr (ro_move (up_m rfl (u8 rfl s10_14))) rfl ?_
 (refine dr (ro_mul' (up_m rfl up_h) up_h ?_) rfl ?_; · (unfold In64; omega))
 refine dr (ro_move (up_m rfl (u2 rfl (u8 rfl s15_14)))) rfl ?_
 (refine dr (ro_mul' (up_m rfl up_h) up_h ?_) rfl ?_; · (unfold In64; omega))
 (refine dr (ro_sub' (u8 rfl up_h) up_h ?_) rfl ?_; · (unfold In64; omega))
 refine dr (ro_ix_own y25_sl40 mo2_13 (up_m rfl (u4 rfl (u8 rfl up_h))) (up_m rfl (u2 rfl (u8 rfl up_h))) (by omega) (by simp only [lnS] <;> omega)) rfl ?_
 refine ds_nil <| al_stm (st_store_el up_h (up_m rfl up_h) rfl rfl rfl mo2_13 (Nat.add_zero _).symm (by refine idx_map ?_; first | omega | (simp only [lnS]; omega)) qsz3 rfl (nle rfl)) trivial rfl (fun m_15 hm_15 => ?_)
 have mo2_15 := m_set hm_15 mo2_13
 simp only [pS, Value.cells, Nat.reduceAdd, jnE, beE, Int.toNat_natCast, toNat_suc, rep_iE, set_iE, hgj, addAt_f, subAt_f, devD_f, wts1_f, wts2_f, wts3_f, wts4_f, wtsL_f] at mo2_15
 have mo1_15 := m_set_o hm_15 mo1_13 (by decide)
 have mo0_15 := m_set_o hm_15 mo0_13 (by decide)
 have ml_15 := m_set_l hm_15 ml_13
 clear hm_15 mo2_13 mo1_13 mo0_13
 refine ae9 (up_n (up_m rfl (u2 rfl (u4 rfl (u8 rfl s0_14))))) (up_n (up_m rfl (u2 rfl (u4 rfl (u8 rfl s8_14))))) (up_n (up_m rfl (u2 rfl (u4 rfl (u8 rfl s11_14))))) (up_n (up_m rfl (u2 rfl (u4 rfl (u8 rfl s12_14))))) (up_n (up_m rfl (u2 rfl (u4 rfl (u8 rfl s13_14))))) (up_n (up_m rfl (u2 rfl (u4 rfl (u8 rfl s14_14))))) (up_n (up_m rfl (u2 rfl (u4 rfl (u8 rfl s15_14))))) (up_n (up_m rfl (u2 rfl (u4 rfl (u8 rfl s16_14))))) (up_n (up_m rfl (u2 rfl (u4 rfl (u8 rfl s17_14))))) ?_; clear s0_14 s10_14 s11_14 s12_14 s13_14 s14_14 s15_14 s16_14 s17_14 s5_14 s8_14 s9_14; intro e_16 s0_16 s8_16 s11_16 s12_16 s13_16 s14_16 s15_16 s16_16 s17_16
 refine then_n <| aw_seq <| at_ <| ar (ro_move s17_16) rfl <| ar (ro_move (up_m rfl s11_16)) rfl <| ar (ro_ix_own y25_sl40 mo2_15 (up_m rfl up_h) up_h (by omega) (by simp only [lnS] <;> omega)) rfl ?_
 refine ar (ro_eq (ro_ld_el y25_ty3 rfl mo2_15 up_h (nle rfl) (by first | (refine idx_map ?_; first | omega | (simp only [lnS]; omega)) | (refine idx_mapI ?_; first | omega | (simp only [lnS]; omega)) | (refine idx_mapN ?_; first | omega | (simp only [lnS]; omega)) | rfl)) (by simp only [pS, Value.cells, Nat.reduceAdd, jnE, beE, Int.toNat_natCast, toNat_suc, rep_iE, set_iE, hgj, addAt_f, subAt_f, devD_f, wts1_f, wts2_f, wts3_f, wts4_f, wtsL_f] <;> rfl)) rfl ?_
 refine ar (ro_move (u4 rfl s13_16)) rfl <| ar (ro_move (up_m rfl (u4 rfl s15_16))) rfl <| ar (ro_move (u2 rfl (u4 rfl s12_16))) rfl ?_
 (refine ar (ro_sub' (up_m rfl up_h) up_h ?_) rfl ?_; · (unfold In64; omega))
 (refine ar (ro_mul' (up_m rfl (u2 rfl up_h)) up_h ?_) rfl ?_; · (unfold In64; omega))
 refine ar (ro_move (up_m rfl (u8 rfl s14_16))) rfl ?_
 (refine ar (ro_mul' (up_m rfl up_h) up_h ?_) rfl ?_; · (unfold In64; omega))
 (refine ar (ro_sub' (up_m rfl (u2 rfl (u4 rfl up_h))) up_h ?_) rfl ?_; · (unfold In64; omega))
 refine ar (ro_ix_own y25_sl40 mo2_15 (up_m rfl (u2 rfl (u8 rfl up_h))) (u2 rfl (u8 rfl up_h)) (by omega) (by simp only [lnS] <;> omega)) rfl ?_
 refine al_stm (st_store_el up_h (up_m rfl up_h) rfl rfl rfl mo2_15 (Nat.add_zero _).symm (by first | (refine idx_map ?_; first | omega | (simp only [lnS]; omega)) | (refine idx_mapI ?_; first | omega | (simp only [lnS]; omega)) | (refine idx_mapN ?_; first | omega | (simp only [lnS]; omega)) | rfl) qsz3 rfl (nle rfl)) trivial rfl (fun m_17 hm_17 => ?_)
 have mo2_17 := m_set hm_17 mo2_15
 simp only [pS, Value.cells, Nat.reduceAdd, jnE, beE, Int.toNat_natCast, toNat_suc, rep_iE, set_iE, hgj, addAt_f, subAt_f, devD_f, wts1_f, wts2_f, wts3_f, wts4_f, wtsL_f] at mo2_17
 have mo1_17 := m_set_o hm_17 mo1_15 (by decide)
 have mo0_17 := m_set_o hm_17 mo0_15 (by decide)
 have ml_17 := m_set_l hm_17 ml_15
 clear hm_17 mo2_15 mo1_15 mo0_15
 refine ae8 (up_n (up_m rfl (u4 rfl (u8 rfl s0_16)))) (up_n (up_m rfl (u4 rfl (u8 rfl s8_16)))) (up_n (up_m rfl (u4 rfl (u8 rfl s11_16)))) (up_n (up_m rfl (u4 rfl (u8 rfl s12_16)))) (up_n (up_m rfl (u4 rfl (u8 rfl s13_16)))) (up_n (up_m rfl (u4 rfl (u8 rfl s14_16)))) (up_n (up_m rfl (u4 rfl (u8 rfl s16_16)))) (up_n (up_m rfl (u4 rfl (u8 rfl s17_16)))) ?_; clear s0_16 s11_16 s12_16 s13_16 s14_16 s15_16 s16_16 s17_16 s8_16; intro e_18 s0_18 s8_18 s11_18 s12_18 s13_18 s14_18 s16_18 s17_18
 refine then_n <| aw_seq <| at_ <| ar (ro_move s17_18) rfl <| ar (ro_move (up_m rfl s11_18)) rfl ?_
 (refine ar (ro_add' up_h ev_c ?_) rfl ?_; · (unfold In64; omega))
 refine ar (ro_ix_own y25_sl40 mo2_17 (u2 rfl up_h) up_h (by omega) (by simp only [lnS] <;> omega)) rfl ?_
 refine ar (ro_eq (ro_ld_el y25_ty3 rfl mo2_17 up_h (nle rfl) (by refine idx_map ?_; first | omega | (simp only [lnS]; omega))) (by simp only [pS, Value.cells, Nat.reduceAdd, jnE, beE, Int.toNat_natCast, toNat_suc, rep_iE, set_iE, hgj, addAt_f, subAt_f, devD_f, wts1_f, wts2_f, wts3_f, wts4_f, wtsL_f] <;> rfl)) rfl ?_
 refine ar (ro_move (up_m rfl (u4 rfl s13_18))) rfl <| ar (ro_move (u2 rfl (u4 rfl s12_18))) rfl ?_
 (refine ar (ro_mul' (up_m rfl up_h) up_h ?_) rfl ?_; · (unfold In64; omega))
 refine ar (ro_move (u8 rfl s14_18)) rfl ?_
 (refine ar (ro_mul' (up_m rfl up_h) up_h ?_) rfl ?_; · (unfold In64; omega))
 (refine ar (ro_sub' (up_m rfl (u4 rfl up_h)) up_h ?_) rfl ?_; · (unfold In64; omega))
 refine ar (ro_ix_own y25_sl40 mo2_17 (u2 rfl (u8 rfl up_h)) (u8 rfl up_h) (by omega) (by simp only [lnS] <;> omega)) rfl ?_
 refine al_stm (st_store_el up_h (up_m rfl up_h) rfl rfl rfl mo2_17 (Nat.add_zero _).symm (by refine idx_map ?_; first | omega | (simp only [lnS]; omega)) qsz3 rfl (nle rfl)) trivial rfl (fun m_19 hm_19 => ?_)
 have mo2_19 := m_set hm_19 mo2_17
 simp only [pS, Value.cells, Nat.reduceAdd, jnE, beE, Int.toNat_natCast, toNat_suc, rep_iE, set_iE, hgj, addAt_f, subAt_f, devD_f, wts1_f, wts2_f, wts3_f, wts4_f, wtsL_f] at mo2_19
 have mo1_19 := m_set_o hm_19 mo1_17 (by decide)
 have mo0_19 := m_set_o hm_19 mo0_17 (by decide)
 have ml_19 := m_set_l hm_19 ml_17
 clear hm_19 mo2_17 mo1_17 mo0_17
 refine ae4 (up_n (u4 rfl (u8 rfl s0_18))) (up_n (u4 rfl (u8 rfl s8_18))) (up_n (u4 rfl (u8 rfl s16_18))) (up_n (u4 rfl (u8 rfl s17_18))) ?_; clear s0_18 s11_18 s12_18 s13_18 s14_18 s16_18 s17_18 s8_18; intro e_20 s0_20 s8_20 s16_20 s17_20
 refine then_n <| aw_seq <| at_ <| ar (ro_build evP_nil qbz55 qbu55 qbp55 rfl) rfl ?_
 refine al_stm (st_alloc qaz55 rfl ml_19) trivial rfl (fun m_21 hm_21 => ?_)
 have mo3_21 := m_push hm_21 ml_19
 simp only [pS, Value.cells, Nat.reduceAdd, jnE, beE, Int.toNat_natCast, toNat_suc, rep_iE, set_iE, hgj, addAt_f, subAt_f, devD_f, wts1_f, wts2_f, wts3_f, wts4_f, wtsL_f] at mo3_21
 have mo2_21 := m_push_o hm_21 mo2_19
 have mo1_21 := m_push_o hm_21 mo1_19
 have mo0_21 := m_push_o hm_21 mo0_19
 have ml_21 := m_push_l hm_21 ml_19
 have ml_21 : _ = 4 := ml_21
 clear hm_21 mo2_19 mo1_19 mo0_19
 refine al_stm (st_store up_h (up_m rfl up_h) rfl rfl mo3_21 qsz55 rfl (nle rfl)) trivial rfl (fun m_22 hm_22 => ?_)
 have mo3_22 := m_set hm_22 mo3_21
 simp only [pS, Value.cells, Nat.reduceAdd, jnE, beE, Int.toNat_natCast, toNat_suc, rep_iE, set_iE, hgj, addAt_f, subAt_f, devD_f, wts1_f, wts2_f, wts3_f, wts4_f, wtsL_f] at mo3_22
 have mo2_22 := m_set_o hm_22 mo2_21 (by decide)
 have mo1_22 := m_set_o hm_22 mo1_21 (by decide)
 have mo0_22 := m_set_o hm_22 mo0_21 (by decide)
 have ml_22 := m_set_l hm_22 ml_21
 clear hm_22 mo3_21 mo2_21 mo1_21 mo0_21
 refine ae5 (up_n (u2 rfl s0_20)) (up_n (u2 rfl s8_20)) (up_n (u2 rfl s16_20)) (up_n (u2 rfl s17_20)) (up_n up_h) ?_; clear s0_20 s16_20 s17_20 s8_20; intro e_23 s0_23 s8_23 s16_23 s17_23 s18_23
 refine then_n <| aw_seq <| aw_seq <| at_ <| ar (ro_move s17_23) rfl <| ar (ro_eq (ro_len_own up_h mo2_22 rfl y25_sl40.1) (by simp only [lnS] <;> rfl)) rfl ?_
 refine ar (ro_move ev_c) rfl <| ae7 (up_m rfl (u2 rfl s0_23)) (up_m rfl (u2 rfl s8_23)) (up_m rfl (u2 rfl s16_23)) (up_m rfl (u2 rfl s18_23)) (u2 rfl up_h) (up_m rfl up_h) up_h ?_; clear s0_23 s16_23 s17_23 s18_23 s8_23; intro e_24 s0_24 s8_24 s16_24 s18_24 s143_24 s144_24 s145_24
 refine then_n <| aw_block <| aw_loop (S := (Int × Int × Int)) (fun s e mem => match s with | ⟨i, lo, hi⟩ => (evA e (.tmp 145) = .v (.int .i64 i)) ∧ (evA e (.tmp 0) = evA e_24 (.tmp 0)) ∧ (evA e (.tmp 8) = evA e_24 (.tmp 8)) ∧ (evA e (.tmp 16) = evA e_24 (.tmp 16)) ∧ (evA e (.tmp 18) = evA e_24 (.tmp 18)) ∧ (evA e (.tmp 143) = evA e_24 (.tmp 143)) ∧ (evA e (.tmp 144) = evA e_24 (.tmp 144)) ∧ (mem[3]? = some (.box 55 [mA lo, mA hi])) ∧ (mem[2]? = m_22[2]?) ∧ (mem[1]? = m_22[1]?) ∧ (mem[0]? = m_22[0]?) ∧ (∃ n, mem.length = n ∧ 4 ≤ n) ∧ ((0 ≤ i ∧ i ≤ l.js.length ∧ lo = devS loF (wtsL l L p j) l.js i.toNat ∧ hi = devS hiF (wtsL l L p j) l.js i.toNat))) (fun s => match s with | ⟨i, lo, hi⟩ => (l.js.length - i).toNat) ⟨_, _, _⟩ ⟨s145_24, rfl, rfl, rfl, rfl, rfl, rfl, mo3_22, rfl, rfl, rfl, ⟨_, ml_22, Nat.le_refl _⟩, ?_⟩ ?_
 ·(exact ⟨by omega, by omega, rfl, rfl⟩)
 ·rintro ⟨i, lo, hi⟩ e_25 m_25 ⟨s145_25, k0_25, k8_25, k16_25, k18_25, k143_25, k144_25, mo3_25, mk2_25, mk1_25, mk0_25, ⟨n_25, ml_25, hn_25⟩, hinv⟩
  have s0_25 := k0_25.trans s0_24
  have s8_25 := k8_25.trans s8_24
  have s16_25 := k16_25.trans s16_24
  have s18_25 := k18_25.trans s18_24
  have s143_25 := k143_25.trans s143_24
  have s144_25 := k144_25.trans s144_24
  have mo2_25 := mk2_25.trans mo2_22
  have mo1_25 := mk1_25.trans mo1_22
  have mo0_25 := mk0_25.trans mo0_22
  (obtain ⟨q1, q2, q3, q4⟩ := hinv)
  refine aw_seq <| at_ <| ar (ro_lss s145_25 s144_25) rfl <| ae8 (up_m rfl s0_25) (up_m rfl s8_25) (up_m rfl s16_25) (up_m rfl s18_25) (up_m rfl s143_25) (up_m rfl s144_25) (up_m rfl s145_25) up_h ?_; clear s0_25 s143_25 s144_25 s145_25 s16_25 s18_25 s8_25; intro e_26 s0_26 s8_26 s16_26 s18_26 s143_26 s144_26 s145_26 s146_26
  refine then_n <| aw_seq <| aw_case s146_26 (fun hq_27 => ?_) (fun hq_27 => ?_)
  ·replace hq_27 := bt hq_27
   (have j2 := h.jnt i.toNat (by omega); have w1 := absP_get (ws := wtsL l L p j) (n := l.js.length) (i := i.toNat) (by omega); obtain ⟨f1, f2, f3, f4, f5⟩ := fF_bd (w := (wtsL l L p j).getD i.toNat default) (j := l.js.getD i.toNat default) (Nat.le_trans w1 s5) j2.1 ⟨j2.2.2.1, j2.2.2.2.1, j2.2.2.2.2⟩; clear w1; replace f3 := nat2 f3; replace f4 := nat2 f4; replace f5 := nat2 f5; clear f1 f2; have w2 := dev_in h (.inl rfl) s5 (n := i.toNat) (by omega); have w3 := dev_in h (.inr rfl) s5 (n := i.toNat) (by omega))
   refine aw_skip <| then_n <| aw_seq <| aw_block <| aw_seq <| at_ <| ar (ro_move s145_26) rfl <| ar (ro_ix_own y25_sl40 mo2_25 (up_m rfl s143_26) (up_m rfl s145_26) (by omega) (by simp only [lnS] <;> omega)) rfl ?_
   refine ar (ro_eq (ro_ld_el y25_ty3 rfl mo2_25 up_h (nle rfl) (by first | (refine idx_map ?_; first | omega | (simp only [lnS]; omega)) | (refine idx_mapI ?_; first | omega | (simp only [lnS]; omega)) | (refine idx_mapN ?_; first | omega | (simp only [lnS]; omega)) | rfl)) (by simp only [pS, Value.cells, Nat.reduceAdd, jnE, beE, Int.toNat_natCast, toNat_suc, rep_iE, set_iE, hgj, addAt_f, subAt_f, devD_f, wts1_f, wts2_f, wts3_f, wts4_f, wtsL_f] <;> rfl)) rfl ?_
   refine ar (ro_assign (u2 rfl up_h)) rfl <| ar (ro_assign (up_m rfl up_h)) rfl <| ae9 (up_m rfl (u4 rfl s0_26)) (up_m rfl (u4 rfl s8_26)) (up_m rfl (u4 rfl s16_26)) (up_m rfl (u4 rfl s18_26)) (up_m rfl up_h) up_h (up_m rfl (u4 rfl s143_26)) (up_m rfl (u4 rfl s144_26)) (up_m rfl (u4 rfl s145_26)) ?_; clear s0_26 s143_26 s144_26 s145_26 s146_26 s16_26 s18_26 s8_26; intro e_28 s0_28 s8_28 s16_28 s18_28 s19_28 s20_28 s143_28 s144_28 s145_28
   refine then_n <| aw_seq <| at_ <| ar (ro_move s0_28) rfl <| ar (ro_nilR up_h) rfl <| ar (ro_eq (ro_fld_ref qfl83_0 rfl up_h) (by simp only [pS, Value.cells, Nat.reduceAdd, jnE, beE, Int.toNat_natCast, toNat_suc, rep_iE, set_iE, hgj, addAt_f, subAt_f, devD_f, wts1_f, wts2_f, wts3_f, wts4_f, wtsL_f] <;> rfl)) rfl ?_
   refine ar (ro_eq (ro_fld_ref qfl26_1 rfl up_h) (by simp only [pS, Value.cells, Nat.reduceAdd, jnE, beE, Int.toNat_natCast, toNat_suc, rep_iE, set_iE, hgj, addAt_f, subAt_f, devD_f, wts1_f, wts2_f, wts3_f, wts4_f, wtsL_f] <;> rfl)) rfl ?_
   refine ar (ro_eq (ro_ld_ref y25_ty22 rfl up_h (nle rfl)) (by simp only [pS, Value.cells, Nat.reduceAdd, jnE, beE, Int.toNat_natCast, toNat_suc, rep_iE, set_iE, hgj, addAt_f, subAt_f, devD_f, wts1_f, wts2_f, wts3_f, wts4_f, wtsL_f] <;> rfl)) rfl ?_
   refine ar (ro_move (up_m rfl (u4 rfl s19_28))) rfl <| ar (ro_eq (ro_ix y25_sl22 (up_m rfl up_h) up_h (by omega) (by first | (refine idx_map ?_; first | omega | (simp only [lnS]; omega)) | (refine idx_mapI ?_; first | omega | (simp only [lnS]; omega)) | (refine idx_mapN ?_; first | omega | (simp only [lnS]; omega)) | rfl)) (by simp only [pS, Value.cells, Nat.reduceAdd, jnE, beE, Int.toNat_natCast, toNat_suc, rep_iE, set_iE, hgj, addAt_f, subAt_f, devD_f, wts1_f, wts2_f, wts3_f, wts4_f, wtsL_f] <;> rfl)) rfl ?_
   refine ar (ro_eq (ro_ld_ref y25_ty66 rfl up_h (nle rfl)) (by simp only [pS, Value.cells, Nat.reduceAdd, jnE, beE, Int.toNat_natCast, toNat_suc, rep_iE, set_iE, hgj, addAt_f, subAt_f, devD_f, wts1_f, wts2_f, wts3_f, wts4_f, wtsL_f] <;> rfl)) rfl ?_
   refine al_stm (st_alloc qaz66 rfl ml_25) trivial rfl (fun m_29 hm_29 => ?_)
   have mon_25_29 := m_push hm_29 ml_25
   simp only [pS, Value.cells, Nat.reduceAdd, jnE, beE, Int.toNat_natCast, toNat_suc, rep_iE, set_iE, hgj, addAt_f, subAt_f, devD_f, wts1_f, wts2_f, wts3_f, wts4_f, wtsL_f] at mon_25_29
   have mo3_29 := m_push_o hm_29 mo3_25
   have mo2_29 := m_push_o hm_29 mo2_25
   have mo1_29 := m_push_o hm_29 mo1_25
   have mo0_29 := m_push_o hm_29 mo0_25
   have ml_29 := m_push_l hm_29 ml_25
   clear hm_29 mo3_25 mo2_25 mo1_25 mo0_25
   refine al_stm (st_store up_h (up_m rfl up_h) rfl rfl mon_25_29 qsz66 rfl (nle rfl)) trivial rfl (fun m_30 hm_30 => ?_)
   have mon_25_30 := m_set hm_30 mon_25_29
   simp only [pS, Value.cells, Nat.reduceAdd, jnE, beE, Int.toNat_natCast, toNat_suc, rep_iE, set_iE, hgj, addAt_f, subAt_f, devD_f, wts1_f, wts2_f, wts3_f, wts4_f, wtsL_f] at mon_25_30
   have mo3_30 := m_set_o hm_30 mo3_29 (by omega)
   have mo2_30 := m_set_o hm_30 mo2_29 (by omega)
   have mo1_30 := m_set_o hm_30 mo1_29 (by omega)
   have mo0_30 := m_set_o hm_30 mo0_29 (by omega)
   have ml_30 := m_set_l hm_30 ml_29
   clear hm_30 mon_25_29 mo3_29 mo2_29 mo1_29 mo0_29
   refine ae9 (up_n (up_m rfl (u8 rfl s0_28))) (up_n (up_m rfl (u8 rfl s8_28))) (up_n (up_m rfl (u8 rfl s16_28))) (up_n (up_m rfl (u8 rfl s18_28))) (up_n (up_m rfl (u8 rfl s20_28))) (up_n up_h) (up_n (up_m rfl (u8 rfl s143_28))) (up_n (up_m rfl (u8 rfl s144_28))) (up_n (up_m rfl (u8 rfl s145_28))) ?_; clear s0_28 s143_28 s144_28 s145_28 s16_28 s18_28 s19_28 s20_28 s8_28; intro e_31 s0_31 s8_31 s16_31 s18_31 s20_31 s21_31 s143_31 s144_31 s145_31
   refine then_n <| aw_seq <| aw_draw 12 (by kernel_rfl) (by kernel_rfl) (by kernel_rfl) (by kernel_rfl) ?_
   refine dr (ro_move s20_31) rfl <| dr (ro_fld_ptr qfl66_2 rfl (up_m rfl s21_31)) rfl <| dr (ro_fld_ptr qfl55_0 rfl up_h) rfl <| dr (ro_eq (ro_ld_ptr y25_ty3 rfl mon_25_30 up_h (nle rfl)) (by simp only [pS, Value.cells, Nat.reduceAdd, jnE, beE, Int.toNat_natCast, toNat_suc, rep_iE, set_iE, hgj, addAt_f, subAt_f, devD_f, wts1_f, wts2_f, wts3_f, wts4_f, wtsL_f] <;> rfl)) rfl ?_
   (refine dr (ro_mul' (up_m rfl (u2 rfl up_h)) up_h ?_) rfl ?_; · (unfold In64; omega))
   refine dr (ro_move (up_m rfl (u4 rfl s20_31))) rfl <| dr (ro_fld_ptr qfl66_2 rfl (u2 rfl (u4 rfl s21_31))) rfl <| dr (ro_fld_ptr qfl55_1 rfl up_h) rfl <| dr (ro_eq (ro_ld_ptr y25_ty3 rfl mon_25_30 up_h (nle rfl)) (by simp only [pS, Value.cells, Nat.reduceAdd, jnE, beE, Int.toNat_natCast, toNat_suc, rep_iE, set_iE, hgj, addAt_f, subAt_f, devD_f, wts1_f, wts2_f, wts3_f, wts4_f, wtsL_f] <;> rfl)) rfl ?_
   (refine dr (ro_mul' (up_m rfl (u2 rfl up_h)) up_h ?_) rfl ?_; · (unfold In64; omega))
   refine dr (ro_assign (up_m rfl (u4 rfl up_h))) rfl <| dr (ro_assign (up_m rfl up_h)) rfl <| ds_nil <| ae11 (u4 rfl (u8 rfl s0_31)) (u4 rfl (u8 rfl s8_31)) (u4 rfl (u8 rfl s16_31)) (u4 rfl (u8 rfl s18_31)) (u4 rfl (u8 rfl s20_31)) (u4 rfl (u8 rfl s21_31)) (up_m rfl up_h) up_h (u4 rfl (u8 rfl s143_31)) (u4 rfl (u8 rfl s144_31)) (u4 rfl (u8 rfl s145_31)) ?_; clear s0_31 s143_31 s144_31 s145_31 s16_31 s18_31 s20_31 s21_31 s8_31; intro e_32 s0_32 s8_32 s16_32 s18_32 s20_32 s21_32 s22_32 s23_32 s143_32 s144_32 s145_32
   refine then_n <| aw_seq <| at_ <| ar (ro_fld_ptr qfl55_0 rfl s18_32) rfl <| ar (ro_eq (ro_ld_ptr y25_ty3 rfl mo3_30 up_h (nle rfl)) (by simp only [pS, Value.cells, Nat.reduceAdd, jnE, beE, Int.toNat_natCast, toNat_suc, rep_iE, set_iE, hgj, addAt_f, subAt_f, devD_f, wts1_f, wts2_f, wts3_f, wts4_f, wtsL_f] <;> rfl)) rfl ?_
   refine ar (ro_move (u2 rfl s20_32)) rfl <| ar (ro_fld_ptr qfl66_0 rfl (up_m rfl (u2 rfl s21_32))) rfl <| ar (ro_eq (ro_ld_ptr y25_ty3 rfl mon_25_30 up_h (nle rfl)) (by simp only [pS, Value.cells, Nat.reduceAdd, jnE, beE, Int.toNat_natCast, toNat_suc, rep_iE, set_iE, hgj, addAt_f, subAt_f, devD_f, wts1_f, wts2_f, wts3_f, wts4_f, wtsL_f] <;> rfl)) rfl ?_
   (refine ar (ro_mul' (u2 rfl up_h) up_h ?_) rfl ?_; · (unfold In64; omega))
   refine ar (ro_move (u2 rfl (u4 rfl s22_32))) rfl <| ar (ro_move (up_m rfl (u2 rfl (u4 rfl s23_32)))) rfl <| ar (ro_min (up_m rfl up_h) up_h) rfl ?_
   (refine ar (ro_add' (up_m rfl (u2 rfl up_h)) up_h ?_) rfl ?_; · (unfold In64; omega))
   (refine ar (ro_add' (u8 rfl up_h) up_h ?_) rfl ?_; · (unfold In64; omega))
   refine ar (ro_fld_ptr qfl55_0 rfl (up_m rfl (u2 rfl (u8 rfl s18_32)))) rfl <| al_stm (st_store up_h (up_m rfl up_h) rfl rfl mo3_30 qsz3 rfl (nle rfl)) trivial rfl (fun m_33 hm_33 => ?_)
   have mo3_33 := m_set hm_33 mo3_30
   simp only [pS, Value.cells, Nat.reduceAdd, jnE, beE, Int.toNat_natCast, toNat_suc, rep_iE, set_iE, hgj, addAt_f, subAt_f, devD_f, wts1_f, wts2_f, wts3_f, wts4_f, wtsL_f] at mo3_33
   have mon_25_33 := m_set_o hm_33 mon_25_30 (by omega)
   have mo2_33 := m_set_o hm_33 mo2_30 (by decide)
   have mo1_33 := m_set_o hm_33 mo1_30 (by decide)
   have mo0_33 := m_set_o hm_33 mo0_30 (by decide)
   have ml_33 := m_set_l hm_33 ml_30
   clear hm_33 mon_25_30 mo3_30 mo2_30 mo1_30 mo0_30
   refine ae11 (up_n (u4 rfl (u8 rfl s0_32))) (up_n (u4 rfl (u8 rfl s8_32))) (up_n (u4 rfl (u8 rfl s16_32))) (up_n (u4 rfl (u8 rfl s18_32))) (up_n (u4 rfl (u8 rfl s20_32))) (up_n (u4 rfl (u8 rfl s21_32))) (up_n (u4 rfl (u8 rfl s22_32))) (up_n (u4 rfl (u8 rfl s23_32))) (up_n (u4 rfl (u8 rfl s143_32))) (up_n (u4 rfl (u8 rfl s144_32))) (up_n (u4 rfl (u8 rfl s145_32))) ?_; clear s0_32 s143_32 s144_32 s145_32 s16_32 s18_32 s20_32 s21_32 s22_32 s23_32 s8_32; intro e_34 s0_34 s8_34 s16_34 s18_34 s20_34 s21_34 s22_34 s23_34 s143_34 s144_34 s145_34
   refine then_n <| at_ <| ar (ro_fld_ptr qfl55_1 rfl s18_34) rfl <| ar (ro_eq (ro_ld_ptr y25_ty3 rfl mo3_33 up_h (nle rfl)) (by simp only [pS, Value.cells, Nat.reduceAdd, jnE, beE, Int.toNat_natCast, toNat_suc, rep_iE, set_iE, hgj, addAt_f, subAt_f, devD_f, wts1_f, wts2_f, wts3_f, wts4_f, wtsL_f] <;> rfl)) rfl ?_
   refine ar (ro_move (u2 rfl s20_34)) rfl <| ar (ro_fld_ptr qfl66_0 rfl (up_m rfl (u2 rfl s21_34))) rfl <| ar (ro_eq (ro_ld_ptr y25_ty3 rfl mon_25_33 up_h (nle rfl)) (by simp only [pS, Value.cells, Nat.reduceAdd, jnE, beE, Int.toNat_natCast, toNat_suc, rep_iE, set_iE, hgj, addAt_f, subAt_f, devD_f, wts1_f, wts2_f, wts3_f, wts4_f, wtsL_f] <;> rfl)) rfl ?_
   (refine ar (ro_mul' (u2 rfl up_h) up_h ?_) rfl ?_; · (unfold In64; omega))
   refine ar (ro_move (u2 rfl (u4 rfl s22_34))) rfl <| ar (ro_move (up_m rfl (u2 rfl (u4 rfl s23_34)))) rfl <| ar (ro_max (up_m rfl up_h) up_h) rfl ?_
   (refine ar (ro_add' (up_m rfl (u2 rfl up_h)) up_h ?_) rfl ?_; · (unfold In64; omega))
   (refine ar (ro_add' (u8 rfl up_h) up_h ?_) rfl ?_; · (unfold In64; omega))
   refine ar (ro_fld_ptr qfl55_1 rfl (up_m rfl (u2 rfl (u8 rfl s18_34)))) rfl <| al_stm (st_store up_h (up_m rfl up_h) rfl rfl mo3_33 qsz3 rfl (nle rfl)) trivial rfl (fun m_35 hm_35 => ?_)
   have mo3_35 := m_set hm_35 mo3_33
   simp only [pS, Value.cells, Nat.reduceAdd, jnE, beE, Int.toNat_natCast, toNat_suc, rep_iE, set_iE, hgj, addAt_f, subAt_f, devD_f, wts1_f, wts2_f, wts3_f, wts4_f, wtsL_f] at mo3_35
   have mon_25_35 := m_set_o hm_35 mon_25_33 (by omega)
   have mo2_35 := m_set_o hm_35 mo2_33 (by decide)
   have mo1_35 := m_set_o hm_35 mo1_33 (by decide)
   have mo0_35 := m_set_o hm_35 mo0_33 (by decide)
   have ml_35 := m_set_l hm_35 ml_33
   clear hm_35 mo3_33 mon_25_33 mo2_33 mo1_33 mo0_33
   refine ae7 (up_n (u4 rfl (u8 rfl s0_34))) (up_n (u4 rfl (u8 rfl s8_34))) (up_n (u4 rfl (u8 rfl s16_34))) (up_n (u4 rfl (u8 rfl s18_34))) (up_n (u4 rfl (u8 rfl s143_34))) (up_n (u4 rfl (u8 rfl s144_34))) (up_n (u4 rfl (u8 rfl s145_34))) ?_; clear s0_34 s143_34 s144_34 s145_34 s16_34 s18_34 s20_34 s21_34 s22_34 s23_34 s8_34; intro e_36 s0_36 s8_36 s16_36 s18_36 s143_36 s144_36 s145_36
   refine block_n <| then_n <| at_ ?_
   (refine ar (ro_add' s145_36 ev_c ?_) rfl ?_; · (unfold In64; omega))
   refine ar (ro_move up_h) rfl <| ae7 (u2 rfl s0_36) (u2 rfl s8_36) (u2 rfl s16_36) (u2 rfl s18_36) (u2 rfl s143_36) (u2 rfl s144_36) up_h ?_; clear s0_36 s143_36 s144_36 s145_36 s16_36 s18_36 s8_36; intro e_37 s0_37 s8_37 s16_37 s18_37 s143_37 s144_37 s145_37
   refine then_n <| ⟨⟨_, _, _⟩, ⟨s145_37, (s0_37.trans s0_24.symm), (s8_37.trans s8_24.symm), (s16_37.trans s16_24.symm), (s18_37.trans s18_24.symm), (s143_37.trans s143_24.symm), (s144_37.trans s144_24.symm), mo3_35, (mo2_35.trans mo2_22.symm), (mo1_35.trans mo1_22.symm), (mo0_35.trans mo0_22.symm), ⟨_, ml_35, by omega⟩, ?_⟩, ?_⟩
   ·(refine ⟨by omega, by omega, ?_, ?_⟩ <;> (rw [show (i + 1).toNat = i.toNat + 1 by omega]; first | (rw [q3]; rfl) | (rw [q4]; rfl)))
   ·((try dsimp only); omega)
  replace hq_27 := bf hq_27
  (have hi' : i.toNat = l.js.length := (by omega); rw [hi'] at q3 q4; have w2 := dev_in h (.inl rfl) s5 (n := l.js.length) (Nat.le_refl _); have w3 := dev_in h (.inr rfl) s5 (n := l.js.length) (Nat.le_refl _); have w5 := ediv_bd (n := -hi) d0 (by omega))
  refine aw_exit <| then_x <| then_x <| block_hit <| then_n <| aw_seq <| aw_draw 11 (by kernel_rfl) (by kernel_rfl) (by kernel_rfl) (by kernel_rfl) ?_
  refine dr (ro_fld_ptr qfl55_0 rfl s18_26) rfl <| dr (ro_eq (ro_ld_ptr y25_ty3 rfl mo3_25 up_h (nle rfl)) (by simp only [pS, Value.cells, Nat.reduceAdd, jnE, beE, Int.toNat_natCast, toNat_suc, rep_iE, set_iE, hgj, addAt_f, subAt_f, devD_f, wts1_f, wts2_f, wts3_f, wts4_f, wtsL_f] <;> rfl)) rfl ?_
  refine dr (ro_move (u2 rfl s16_26)) rfl <| dr (ro_call (evL_cons (up_m rfl up_h) (evL_cons up_h evL_nil)) rfl (yFloor_ok _ _ d0 (by omega)) y25_hcf67) rfl ?_
  refine dr (ro_fld_ptr qfl55_1 rfl (u4 rfl s18_26)) rfl <| dr (ro_eq (ro_ld_ptr y25_ty3 rfl mo3_25 up_h (nle rfl)) (by simp only [pS, Value.cells, Nat.reduceAdd, jnE, beE, Int.toNat_natCast, toNat_suc, rep_iE, set_iE, hgj, addAt_f, subAt_f, devD_f, wts1_f, wts2_f, wts3_f, wts4_f, wtsL_f] <;> rfl)) rfl ?_
  (refine dr (ro_neg' up_h ?_) rfl ?_; · (unfold In64; omega))
  refine dr (ro_move (up_m rfl (u2 rfl (u4 rfl s16_26)))) rfl <| dr (ro_call (evL_cons (up_m rfl up_h) (evL_cons up_h evL_nil)) rfl (yFloor_ok _ _ d0 (by omega)) y25_hcf67) rfl ?_
  refine dr (ro_neg up_h) rfl <| dr (ro_build (evP_cons (u2 rfl (u4 rfl up_h)) (evP_cons up_h evP_nil)) qbz55 qbu55 qbp55 rfl) rfl ?_
  refine ds_nil <| al_stm (st_store (up_m rfl (u2 rfl (u8 rfl s8_26))) up_h rfl rfl mo1_25 qsz55 rfl (nle rfl)) trivial rfl (fun m_38 hm_38 => ?_)
  have mo1_38 := m_set hm_38 mo1_25
  simp only [pS, Value.cells, Nat.reduceAdd, jnE, beE, Int.toNat_natCast, toNat_suc, rep_iE, set_iE, hgj, addAt_f, subAt_f, devD_f, wts1_f, wts2_f, wts3_f, wts4_f, wtsL_f] at mo1_38
  have mo3_38 := m_set_o hm_38 mo3_25 (by decide)
  have mo2_38 := m_set_o hm_38 mo2_25 (by decide)
  have mo0_38 := m_set_o hm_38 mo0_25 (by decide)
  have ml_38 := m_set_l hm_38 ml_25
  clear hm_38 mo3_25 mo2_25 mo1_25 mo0_25
  refine ae1 (up_n (up_m rfl (u2 rfl (u8 rfl s8_26)))) ?_; clear s0_26 s143_26 s144_26 s145_26 s146_26 s16_26 s18_26 s8_26; intro e_39 s8_39
  refine then_n <| aw_ret <| ret1 (.inr rfl) (by kernel_rfl) (resV_cell s8_39 mo1_38 y25_ty55 (nle rfl) (by simp)) (vw_r (.ro _ rfl)) ?_
  clear s8_39 mo1_38 mo3_38 mo2_38 mo0_38 ml_38
  (rw [q4] at w5; rw [q3, q4, wrap_in (by unfold In64; omega)]; rfl)
end Go.Proofs.Ytjhcfpdgldpicaa
