/- Texts of this claim, one behind the other: lemmas for the statement. -/
import Derived.Test.YtonjcljnpcmenaaM5
import Derived.Test.YtonjcljnpcmenaaA24
import Derived.Test.YtonjcljnpcmenaaT0
/- Contracts: a number sought in a sorted list. No conditions on a program. -/
namespace Go.Proofs.Ytonjcljnpcmenaa
open Go Go.RowKit Go.Proofs
set_option linter.unusedSimpArgs false
set_option linter.unusedVariables false
set_option maxRecDepth 100000 in
set_option maxHeartbeats 1000000 in
theorem cNaN_ok (n : Int) : FnOk Try.prog 161 [mA n] (fun q => q = tbA false) := by
  refine fnOk_of (fn := Try.f161) 6 (by kernel_rfl) rfl (by kernel_rfl) (Nat.le_of_ble_eq_true rfl) ?_
  intro e_0 m_0 hA hm_0
  have s0_0 : evA e_0 (.tmp 0) = _ := hA 0 _ rfl
  have ml_0 : m_0.length = 0 := by rw [hm_0]; rfl
  clear hA hm_0
  refine aw_seq <| at_ <| ar (ro_assign ev_c) rfl <| ae1 (up_m rfl s0_0) ?_; clear s0_0; intro e_1 s0_1
  refine then_n <| aw_seq <| at_ <| ar (ro_move s0_1) rfl <| ar (ro_move (up_m rfl s0_1)) rfl <| ar (ro_neq (up_m rfl up_h) up_h) rfl <| ar (ro_assign up_h) rfl <| ae1 up_h ?_; clear s0_1; intro e_2 s2_2
  refine then_n <| aw_ret <| ret1 (.inr rfl) (by kernel_rfl) (resV_tmp s2_2) (.ro _ rfl) ?_
  clear s2_2  ml_0
  simp
/-- Those below i are less than a number; those from i on are not. -/
def Blw (xs : List Int) (t : Int) (i : Nat) : Prop := ∀ k : Nat, k < i → xs.getD k default < t
def Abo (xs : List Int) (t : Int) (i : Nat) : Prop := ∀ k : Nat, i ≤ k → k < xs.length → t ≤ xs.getD k default
/-- No number is less than one before it. -/
def Srt (xs : List Int) : Prop := ∀ i j : Nat, i ≤ j → j < xs.length → xs.getD i default ≤ xs.getD j default
theorem Blw.step {xs : List Int} {t : Int} (hs : Srt xs) {i : Nat} (hi : i < xs.length) (h : xs.getD i default < t) : Blw xs t (i + 1) := fun k hk => by
  have := hs k i (by omega) hi; omega
theorem Abo.step {xs : List Int} {t : Int} (hs : Srt xs) {i : Nat} (h : t ≤ xs.getD i default) : Abo xs t i := fun k h1 h2 => by
  have := hs i k h1 h2; omega
/-- The last beam whose first joint is at most at a place. -/
def beaN (bs : List Bea) (p : Int) : Nat → Nat
  | 0 => 0
  | n + 1 => if plaP bs n ≤ p then n else beaN bs p n
theorem beaN_at {bs : List Bea} {p : Int} (h0 : 0 ≤ p) : ∀ {n : Nat}, 1 ≤ n → beaN bs p n < n ∧ plaP bs (beaN bs p n) ≤ p ∧ ∀ j : Nat, beaN bs p n < j → j < n → p < plaP bs j
  | n + 1, _ => by
    simp only [beaN]
    by_cases h : plaP bs n ≤ p
    · rw [if_pos h]; exact ⟨by omega, h, fun j h1 h2 => by omega⟩
    · rw [if_neg h]
      rcases Nat.eq_zero_or_pos n with hn | hn
      · subst hn; simp [plaP] at h; omega
      · obtain ⟨h1, h2, h3⟩ := beaN_at (bs := bs) h0 (n := n) hn
        refine ⟨by omega, h2, fun j h4 h5 => ?_⟩
        by_cases hj : j = n
        · subst hj; omega
        · exact h3 j h4 (by omega)
theorem Rgt.mono {l : Lin} (h : Rgt l) {i : Nat} : ∀ {j : Nat}, i ≤ j → j ≤ l.bs.length → plaP l.bs i + 1000 * ((j : Int) - i) ≤ plaP l.bs j
  | 0, h1, _ => by obtain rfl : i = 0 := by omega
                   omega
  | j + 1, h1, h2 => by
    by_cases hij : i = j + 1
    · subst hij; omega
    · have := h.mono (i := i) (j := j) (by omega) (by omega)
      have := h.bea j (by omega)
      simp only [plaP]
      omega
end Go.Proofs.Ytonjcljnpcmenaa

/- Contracts: a quotient in lowest terms. No conditions on a program. -/
namespace Go.Proofs.Ytonjcljnpcmenaa
open Go Go.RowKit Go.Proofs
set_option linter.unusedSimpArgs false
set_option linter.unusedVariables false
theorem y18_bz81 : (Try.prog.info? 81).bind (·.zero) = some (.agg #[.int .i64 0, .int .i64 0]) := by kernel_rfl
theorem y18_bu81 : Try.prog.underlying 81 = some (.struct (fsOf Try.prog 81)) := by kernel_rfl
theorem y18_bp81 : ∀ w, ((fsOf Try.prog 81).mapM fun f => Prod.mk f.offset <$> sizeOf f.type : Sem (Array (Nat × Nat))).run Try.prog w = .ok (#[(0, 1), (1, 1)]) w := fun _ => by kernel_rfl
theorem y18_ty81 : TyIs Try.prog 81 true 2 := ⟨by kernel_rfl, by kernel_rfl⟩

theorem tmod_lt {x y : Int} (hy : y ≠ 0) : (x.tmod y).natAbs < y.natAbs := by rw [Int.natAbs_tmod]; exact Nat.mod_lt _ (Int.natAbs_pos.2 hy)
theorem tmod_gcd (x y : Int) : Int.gcd y (x.tmod y) = Int.gcd x y := by
  unfold Int.gcd
  rw [Int.natAbs_tmod, Nat.gcd_comm y.natAbs, ← Nat.gcd_rec, Nat.gcd_comm]
theorem tdiv_bd {m : Int} (hm : -4000000000000000000 ≤ m ∧ m ≤ 4000000000000000000) (n : Int) : -4000000000000000000 ≤ m.tdiv n ∧ m.tdiv n ≤ 4000000000000000000 := by
  have := Int.natAbs_tdiv_le_natAbs m n
  omega
/-- A quotient in lowest terms. -/
def fraN (n b : Int) : Int := n.tdiv (Int.gcd n b)
def fraD (n b : Int) : Int := b.tdiv (Int.gcd n b)
def frA (x y : Int) : AV := .agg [mA x, mA y]
set_option maxRecDepth 100000 in
set_option maxHeartbeats 4000000 in
theorem frac_ok (n b : Int) (hn : -4000000000000000000 ≤ n ∧ n ≤ 4000000000000000000) (hb : 0 < b ∧ b ≤ 4000000000000000000) : FnOk Try.prog 105 [mA n, mA b] (fun q => q = frA (fraN n b) (fraD n b)) := by
  refine fnOk_of (fn := Try.f105) 26 (by kernel_rfl) rfl (by kernel_rfl) (Nat.le_of_ble_eq_true rfl) ?_
  intro e_0 m_0 hA hm_0
  have s0_0 : evA e_0 (.tmp 0) = _ := hA 0 _ rfl
  have s1_0 : evA e_0 (.tmp 1) = _ := hA 1 _ rfl
  have ml_0 : m_0.length = 0 := by rw [hm_0]; rfl
  clear hA hm_0
  refine aw_seq <| at_ <| al_stm (st_alloc qaz81 rfl ml_0) trivial rfl (fun m_1 hm_1 => ?_)
  have mo0_1 := m_push hm_1 ml_0
  simp only [pS, Value.cells, Nat.reduceAdd] at mo0_1
  have ml_1 := m_push_l hm_1 ml_0
  have ml_1 : _ = 1 := ml_1
  clear hm_1
  refine ae3 (up_m rfl s0_0) (up_m rfl s1_0) up_h ?_; clear s0_0 s1_0; intro e_2 s0_2 s1_2 s4_2
  refine then_n <| aw_seq <| at_ <| ar (ro_move s0_2) rfl <| ar (ro_move (up_m rfl s1_2)) rfl <| ar (ro_assign (up_m rfl up_h)) rfl <| ar (ro_assign (up_m rfl up_h)) rfl <| ae5 (u4 rfl s0_2) (u4 rfl s1_2) (u4 rfl s4_2) (up_m rfl up_h) up_h ?_; clear s0_2 s1_2 s4_2; intro e_3 s0_3 s1_3 s4_3 s5_3 s6_3
  refine then_n <| aw_seq <| aw_block <| aw_loop (S := (Int × Int)) (fun s e mem => match s with | ⟨x, y⟩ => (evA e (.tmp 5) = .v (.int .i64 x)) ∧ (evA e (.tmp 6) = .v (.int .i64 y)) ∧ (evA e (.tmp 0) = evA e_3 (.tmp 0)) ∧ (evA e (.tmp 1) = evA e_3 (.tmp 1)) ∧ (evA e (.tmp 4) = evA e_3 (.tmp 4)) ∧ (mem[0]? = m_1[0]?) ∧ (mem.length = 1) ∧ (((-4000000000000000000 ≤ x ∧ x ≤ 4000000000000000000) ∧ (-4000000000000000000 ≤ y ∧ y ≤ 4000000000000000000) ∧ Int.gcd x y = Int.gcd n b))) (fun s => match s with | ⟨x, y⟩ => y.natAbs) ⟨_, _⟩ ⟨s5_3, s6_3, rfl, rfl, rfl, rfl, ml_1, ?_⟩ ?_
  · (exact ⟨hn, by omega, rfl⟩)
  · rintro ⟨x, y⟩ e_4 m_4 ⟨s5_4, s6_4, k0_4, k1_4, k4_4, mk0_4, ml_4, hinv⟩
    have s0_4 := k0_4.trans s0_3
    have s1_4 := k1_4.trans s1_3
    have s4_4 := k4_4.trans s4_3
    have mo0_4 := mk0_4.trans mo0_1
    (obtain ⟨p1, p2, p3⟩ := hinv)
    refine aw_seq <| aw_seq <| at_ <| ar (ro_move s6_4) rfl <| ar (ro_neq up_h ev_c) rfl <| ae6 (u2 rfl s0_4) (u2 rfl s1_4) (u2 rfl s4_4) (u2 rfl s5_4) (u2 rfl s6_4) up_h ?_; clear s0_4 s1_4 s4_4 s5_4 s6_4; intro e_5 s0_5 s1_5 s4_5 s5_5 s6_5 s10_5
    refine then_n <| aw_case s10_5 (fun hq_6 => ?_) (fun hq_6 => ?_)
    ·replace hq_6 := bnt hq_6
     refine aw_skip <| then_n <| aw_block <| aw_draw 6 (by kernel_rfl) (by kernel_rfl) (by kernel_rfl) (by kernel_rfl) ?_
     refine dr (ro_move s6_5) rfl <| dr (ro_move (up_m rfl s5_5)) rfl <| dr (ro_move (u2 rfl s6_5)) rfl <| dr (ro_rem (up_m rfl up_h) up_h (by omega)) rfl ?_
     refine dr (ro_assign (up_m rfl (u2 rfl up_h))) rfl <| dr (ro_assign (up_m rfl up_h)) rfl <| ds_nil <| ae5 (u2 rfl (u4 rfl s0_5)) (u2 rfl (u4 rfl s1_5)) (u2 rfl (u4 rfl s4_5)) (up_m rfl up_h) up_h ?_; clear s0_5 s10_5 s1_5 s4_5 s5_5 s6_5; intro e_7 s0_7 s1_7 s4_7 s5_7 s6_7
     refine block_n <| then_n <| ⟨⟨_, _⟩, ⟨s5_7, s6_7, (s0_7.trans s0_3.symm), (s1_7.trans s1_3.symm), (s4_7.trans s4_3.symm), (mo0_4.trans mo0_1.symm), ml_4, ?_⟩, ?_⟩
     · (have hy : y ≠ 0 := (by assumption); have := tmod_lt (x := x) hy; refine ⟨p2, by omega, ?_⟩; rw [tmod_gcd, p3])
     · ((try dsimp only); (exact tmod_lt (by assumption)))
    replace hq_6 := bnf hq_6
    (have hy : y = 0 := (by omega); have hg : max x (-x) = (Int.gcd n b : Int) := (by rw [← p3, hy, Int.gcd_zero_right]; omega); have hgp : 0 < Int.gcd n b := Int.gcd_pos_of_ne_zero_right _ (by omega); have t1 := tdiv_bd hn (max x (-x)); have t2 := tdiv_bd (m := b) (by omega) (max x (-x)))
    refine aw_exit <| then_x <| then_x <| block_hit <| then_n <| aw_seq <| at_ <| ar (ro_move s5_5) rfl <| ar (ro_move (up_m rfl s5_5)) rfl ?_
    (refine ar (ro_neg' up_h ?_) rfl ?_; · (unfold In64; omega))
    refine ar (ro_max (u2 rfl up_h) up_h) rfl <| ar (ro_assign up_h) rfl <| ae4 (up_m rfl (u4 rfl s0_5)) (up_m rfl (u4 rfl s1_5)) (up_m rfl (u4 rfl s4_5)) up_h ?_; clear s0_5 s10_5 s1_5 s4_5 s5_5 s6_5; intro e_8 s0_8 s1_8 s4_8 s5_8
    refine then_n <| aw_seq <| aw_draw 7 (by kernel_rfl) (by kernel_rfl) (by kernel_rfl) (by kernel_rfl) ?_
    refine dr (ro_move s0_8) rfl <| dr (ro_move (up_m rfl s5_8)) rfl ?_
    (refine dr (ro_quo' (up_m rfl up_h) up_h (by omega) ?_) rfl ?_; · (unfold In64; omega))
    refine dr (ro_move (up_m rfl (u2 rfl s1_8))) rfl <| dr (ro_move (u4 rfl s5_8)) rfl ?_
    (refine dr (ro_quo' (up_m rfl up_h) up_h (by omega) ?_) rfl ?_; · (unfold In64; omega))
    refine dr (ro_build (evP_cons (up_m rfl (u2 rfl up_h)) (evP_cons up_h evP_nil)) y18_bz81 y18_bu81 y18_bp81 rfl) rfl ?_
    refine ds_nil <| al_stm (st_store (up_m rfl (u2 rfl (u4 rfl s4_8))) up_h rfl rfl mo0_4 qsz81 rfl (nle rfl)) trivial rfl (fun m_9 hm_9 => ?_)
    have mo0_9 := m_set hm_9 mo0_4
    simp only [pS, Value.cells, Nat.reduceAdd] at mo0_9
    have ml_9 := m_set_l hm_9 ml_4
    clear hm_9 mo0_4
    refine ae1 (up_n (up_m rfl (u2 rfl (u4 rfl s4_8)))) ?_; clear s0_8 s1_8 s4_8 s5_8; intro e_10 s4_10
    refine then_n <| aw_ret <| ret1 (.inr rfl) (by kernel_rfl) (resV_cell s4_10 mo0_9 y18_ty81 (nle rfl) (by simp)) (vw_r (.ro _ rfl)) ?_
    clear s4_10 mo0_9 ml_9
    (unfold frA fraN fraD; rw [hg]; rfl)
end Go.Proofs.Ytonjcljnpcmenaa

/- Contracts of chapter 1: how far across and up a place is. No conditions on a program. -/
namespace Go.Proofs.Ytonjcljnpcmenaa
open Go Go.RowKit Go.Proofs
set_option linter.unusedSimpArgs false
set_option linter.unusedVariables false
theorem mul_in {x y : Int} (X Y : Nat) (hx : x.natAbs ≤ X) (hy : y.natAbs ≤ Y) : (x * y).natAbs ≤ X * Y := by rw [Int.natAbs_mul]; exact Nat.mul_le_mul hx hy
theorem toNat_suc (n : Nat) : ((n : Int) + 1).toNat = n + 1 := by omega
/-- The beam at a place, how far behind its first joint this is. -/
def atI (l : Lin) (p : Int) : Nat := beaN l.bs p l.bs.length
def atD (l : Lin) (p : Int) : Int := p - plaP l.bs (atI l p)
theorem at_bd {l : Lin} (h : Rgt l) {p : Int} (hp : 0 ≤ p ∧ p ≤ plaP l.bs l.bs.length) : atI l p < l.bs.length ∧ 0 ≤ atD l p ∧ atD l p ≤ (l.bs.getD (atI l p) default).len := by
  obtain ⟨b1, b2, b3⟩ := beaN_at (bs := l.bs) hp.1 (n := l.bs.length) h.n0
  refine ⟨b1, by unfold atD atI; omega, ?_⟩
  unfold atD atI
  by_cases hn : beaN l.bs p l.bs.length + 1 < l.bs.length
  · have := b3 _ (Nat.lt_succ_self _) hn
    simp only [plaP] at this; omega
  · have he : l.bs.length = beaN l.bs p l.bs.length + 1 := by omega
    have h2 := hp.2
    have key : ∀ n b : Nat, n = b + 1 → plaP l.bs n = plaP l.bs b + (l.bs.getD b default).len := fun n b h => by subst h; rfl
    have := key _ _ he
    omega
end Go.Proofs.Ytonjcljnpcmenaa

/- Contracts of chapter 1: how far across and up a place is, the walks. No conditions on a program. -/
namespace Go.Proofs.Ytonjcljnpcmenaa
open Go Go.RowKit Go.Proofs
set_option linter.unusedSimpArgs false
set_option linter.unusedVariables false
end Go.Proofs.Ytonjcljnpcmenaa

/- Contracts: products and quotients of two words, the limit at a joint where the product is one word. No conditions on a program. -/
namespace Go.Proofs.Ytonjcljnpcmenaa
open Go Go.RowKit Go.Proofs
set_option linter.unusedSimpArgs false
set_option linter.unusedVariables false
theorem y21_hcf161 : ∀ args w, (callFunc 161 args).run Try.prog w = .ok (.enter 161 args) w := fun _ _ => by kernel_rfl
theorem y21_sl22 : SlIs Try.prog 22 70 4 32 (.agg #[.int .i64 0, .int .i64 0, .int .i64 0, .int .i64 0]) := ⟨by kernel_rfl, by kernel_rfl, by kernel_rfl⟩
theorem y21_sl23 : SlIs Try.prog 23 87 2 16 (.agg #[.int .i64 0, .int .i64 0]) := ⟨by kernel_rfl, by kernel_rfl, by kernel_rfl⟩
theorem y21_ty22 : TyIs Try.prog 22 false 1 := ⟨by kernel_rfl, by kernel_rfl⟩
theorem y21_ty23 : TyIs Try.prog 23 false 1 := ⟨by kernel_rfl, by kernel_rfl⟩
theorem y21_ty3 : TyIs Try.prog 3 false 1 := ⟨by kernel_rfl, by kernel_rfl⟩

abbrev uA (n : Int) : AV := .v (.int .u64 n)
theorem mul_words (x y : Int) : x * y = (x / 4294967296) * (y / 4294967296) * 18446744073709551616 + (x / 4294967296) * (y % 4294967296) * 4294967296 + (x % 4294967296) * (y / 4294967296) * 4294967296 + (x % 4294967296) * (y % 4294967296) := by
  have h1 : x = (x / 4294967296) * 4294967296 + x % 4294967296 := by omega
  have h2 : y = (y / 4294967296) * 4294967296 + y % 4294967296 := by omega
  generalize x / 4294967296 = b at *
  generalize x % 4294967296 = a at *
  generalize y / 4294967296 = d at *
  generalize y % 4294967296 = c at *
  subst h1 h2
  have e1 : b * 4294967296 * (d * 4294967296) = b * d * 18446744073709551616 := by
    rw [Int.mul_assoc, ← Int.mul_assoc 4294967296 d, Int.mul_comm 4294967296 d, Int.mul_assoc d, ← Int.mul_assoc b d]; rfl
  have e2 : b * 4294967296 * c = b * c * 4294967296 := by rw [Int.mul_assoc, Int.mul_comm 4294967296 c, ← Int.mul_assoc]
  have e3 : a * (d * 4294967296) = a * d * 4294967296 := by rw [← Int.mul_assoc]
  rw [Int.add_mul, Int.mul_add, Int.mul_add, e1, e2, e3]
  omega
theorem prod_in {a c : Int} (h1 : 0 ≤ a ∧ a < 4294967296) (h2 : 0 ≤ c ∧ c < 4294967296) : 0 ≤ a * c ∧ a * c ≤ 18446744065119617025 := by
  have := mul_in 4294967295 4294967295 (x := a) (y := c) (by omega) (by omega)
  have := Int.mul_nonneg h1.1 h2.1
  omega
set_option maxRecDepth 100000 in
set_option maxHeartbeats 4000000 in
theorem mul64_ok (x y : Int) (hx : InU64 x) (hy : InU64 y) : FnOk Try.prog 138 [uA x, uA y] (fun q => q = .tuple [uA (x * y / 18446744073709551616), uA (x * y % 18446744073709551616)]) := by
  refine fnOk_of (fn := Try.f138) 51 (by kernel_rfl) rfl (by kernel_rfl) (Nat.le_of_ble_eq_true rfl) ?_
  intro e_0 m_0 hA hm_0
  have s0_0 : evA e_0 (.tmp 0) = _ := hA 0 _ rfl
  have s1_0 : evA e_0 (.tmp 1) = _ := hA 1 _ rfl
  have ml_0 : m_0.length = 0 := by rw [hm_0]; rfl
  clear hA hm_0
  have hx' := hx; have hy' := hy; unfold InU64 at hx' hy'; have q1 := prod_in (a := x % 4294967296) (c := y % 4294967296) (by omega) (by omega); have q2 := prod_in (a := x / 4294967296) (c := y % 4294967296) (by omega) (by omega); have q3 := prod_in (a := x % 4294967296) (c := y / 4294967296) (by omega) (by omega); have q4 := prod_in (a := x / 4294967296) (c := y / 4294967296) (by omega) (by omega); have hm := mul_words x y
  refine aw_seq <| at_ <| ar (ro_assign ev_c) rfl <| ar (ro_assign ev_c) rfl <| ae2 (u2 rfl s0_0) (u2 rfl s1_0) ?_; clear s0_0 s1_0; intro e_1 s0_1 s1_1
  refine then_n <| aw_seq <| at_ <| ar (ro_move s0_1) rfl ?_
  (refine ar (ro_andL (c := 4294967296) up_h ev_c 32 (by decide) (by decide) (by decide) ?_) rfl ?_; · ((first | unfold In64 | unfold InU64); omega))
  refine ar (ro_assign up_h) rfl <| ae3 (up_m rfl (u2 rfl s0_1)) (up_m rfl (u2 rfl s1_1)) up_h ?_; clear s0_1 s1_1; intro e_2 s0_2 s1_2 s6_2
  refine then_n <| aw_seq <| at_ <| ar (ro_move s0_2) rfl <| ar (ro_shr (c := 4294967296) up_h ev_c (by decide) (by decide)) rfl ?_
  refine ar (ro_assign up_h) rfl <| ae4 (up_m rfl (u2 rfl s0_2)) (up_m rfl (u2 rfl s1_2)) (up_m rfl (u2 rfl s6_2)) up_h ?_; clear s0_2 s1_2 s6_2; intro e_3 s0_3 s1_3 s6_3 s7_3
  refine then_n <| aw_seq <| at_ <| ar (ro_move s1_3) rfl ?_
  (refine ar (ro_andL (c := 4294967296) up_h ev_c 32 (by decide) (by decide) (by decide) ?_) rfl ?_; · ((first | unfold In64 | unfold InU64); omega))
  refine ar (ro_assign up_h) rfl <| ae5 (up_m rfl (u2 rfl s0_3)) (up_m rfl (u2 rfl s1_3)) (up_m rfl (u2 rfl s6_3)) (up_m rfl (u2 rfl s7_3)) up_h ?_; clear s0_3 s1_3 s6_3 s7_3; intro e_4 s0_4 s1_4 s6_4 s7_4 s8_4
  refine then_n <| aw_seq <| at_ <| ar (ro_move s1_4) rfl <| ar (ro_shr (c := 4294967296) up_h ev_c (by decide) (by decide)) rfl ?_
  refine ar (ro_assign up_h) rfl <| ae6 (up_m rfl (u2 rfl s0_4)) (up_m rfl (u2 rfl s1_4)) (up_m rfl (u2 rfl s6_4)) (up_m rfl (u2 rfl s7_4)) (up_m rfl (u2 rfl s8_4)) up_h ?_; clear s0_4 s1_4 s6_4 s7_4 s8_4; intro e_5 s0_5 s1_5 s6_5 s7_5 s8_5 s9_5
  refine then_n <| aw_seq <| at_ <| ar (ro_move s6_5) rfl <| ar (ro_move (up_m rfl s8_5)) rfl ?_
  (refine ar (ro_mulU (up_m rfl up_h) up_h ?_) rfl ?_; · ((first | unfold In64 | unfold InU64); omega))
  refine ar (ro_assign up_h) rfl <| ae7 (u4 rfl s0_5) (u4 rfl s1_5) (u4 rfl s6_5) (u4 rfl s7_5) (u4 rfl s8_5) (u4 rfl s9_5) up_h ?_; clear s0_5 s1_5 s6_5 s7_5 s8_5 s9_5; intro e_6 s0_6 s1_6 s6_6 s7_6 s8_6 s9_6 s10_6
  refine then_n <| aw_seq <| at_ <| ar (ro_move s7_6) rfl <| ar (ro_move (up_m rfl s8_6)) rfl ?_
  (refine ar (ro_mulU (up_m rfl up_h) up_h ?_) rfl ?_; · ((first | unfold In64 | unfold InU64); omega))
  refine ar (ro_move (up_m rfl (u2 rfl s10_6))) rfl <| ar (ro_shr (c := 4294967296) up_h ev_c (by decide) (by decide)) rfl ?_
  (refine ar (ro_addU (u2 rfl up_h) up_h ?_) rfl ?_; · ((first | unfold In64 | unfold InU64); omega))
  refine ar (ro_assign up_h) rfl <| ae6 (up_m rfl (u2 rfl (u4 rfl s0_6))) (up_m rfl (u2 rfl (u4 rfl s1_6))) (up_m rfl (u2 rfl (u4 rfl s6_6))) (up_m rfl (u2 rfl (u4 rfl s7_6))) (up_m rfl (u2 rfl (u4 rfl s9_6))) up_h ?_; clear s0_6 s10_6 s1_6 s6_6 s7_6 s8_6 s9_6; intro e_7 s0_7 s1_7 s6_7 s7_7 s9_7 s11_7
  refine then_n <| aw_seq <| at_ <| ar (ro_move s11_7) rfl ?_
  (refine ar (ro_andL (c := 4294967296) up_h ev_c 32 (by decide) (by decide) (by decide) ?_) rfl ?_; · ((first | unfold In64 | unfold InU64); omega))
  refine ar (ro_assign up_h) rfl <| ae7 (up_m rfl (u2 rfl s0_7)) (up_m rfl (u2 rfl s1_7)) (up_m rfl (u2 rfl s6_7)) (up_m rfl (u2 rfl s7_7)) (up_m rfl (u2 rfl s9_7)) (up_m rfl (u2 rfl s11_7)) up_h ?_; clear s0_7 s11_7 s1_7 s6_7 s7_7 s9_7; intro e_8 s0_8 s1_8 s6_8 s7_8 s9_8 s11_8 s12_8
  refine then_n <| aw_seq <| at_ <| ar (ro_move s11_8) rfl <| ar (ro_shr (c := 4294967296) up_h ev_c (by decide) (by decide)) rfl ?_
  refine ar (ro_assign up_h) rfl <| ae7 (up_m rfl (u2 rfl s0_8)) (up_m rfl (u2 rfl s1_8)) (up_m rfl (u2 rfl s6_8)) (up_m rfl (u2 rfl s7_8)) (up_m rfl (u2 rfl s9_8)) (up_m rfl (u2 rfl s12_8)) up_h ?_; clear s0_8 s11_8 s12_8 s1_8 s6_8 s7_8 s9_8; intro e_9 s0_9 s1_9 s6_9 s7_9 s9_9 s12_9 s13_9
  refine then_n <| aw_seq <| at_ <| ar (ro_move s12_9) rfl <| ar (ro_move (up_m rfl s6_9)) rfl <| ar (ro_move (u2 rfl s9_9)) rfl ?_
  (refine ar (ro_mulU (up_m rfl up_h) up_h ?_) rfl ?_; · ((first | unfold In64 | unfold InU64); omega))
  (refine ar (ro_addU (up_m rfl (u2 rfl up_h)) up_h ?_) rfl ?_; · ((first | unfold In64 | unfold InU64); omega))
  refine ar (ro_assign up_h) rfl <| ae6 (u2 rfl (u4 rfl s0_9)) (u2 rfl (u4 rfl s1_9)) (u2 rfl (u4 rfl s7_9)) (u2 rfl (u4 rfl s9_9)) up_h (u2 rfl (u4 rfl s13_9)) ?_; clear s0_9 s12_9 s13_9 s1_9 s6_9 s7_9 s9_9; intro e_10 s0_10 s1_10 s7_10 s9_10 s12_10 s13_10
  refine then_n <| aw_seq <| at_ <| ar (ro_move s7_10) rfl <| ar (ro_move (up_m rfl s9_10)) rfl ?_
  (refine ar (ro_mulU (up_m rfl up_h) up_h ?_) rfl ?_; · ((first | unfold In64 | unfold InU64); omega))
  refine ar (ro_move (up_m rfl (u2 rfl s13_10))) rfl ?_
  (refine ar (ro_addU (up_m rfl up_h) up_h ?_) rfl ?_; · ((first | unfold In64 | unfold InU64); omega))
  refine ar (ro_move (up_m rfl (u4 rfl s12_10))) rfl <| ar (ro_shr (c := 4294967296) up_h ev_c (by decide) (by decide)) rfl ?_
  (refine ar (ro_addU (u2 rfl up_h) up_h ?_) rfl ?_; · ((first | unfold In64 | unfold InU64); omega))
  refine ar (ro_assign up_h) rfl <| ae3 (up_m rfl (u8 rfl s0_10)) (up_m rfl (u8 rfl s1_10)) up_h ?_; clear s0_10 s12_10 s13_10 s1_10 s7_10 s9_10; intro e_11 s0_11 s1_11 s4_11
  refine then_n <| aw_seq <| at_ <| ar (ro_move s0_11) rfl <| ar (ro_move (up_m rfl s1_11)) rfl <| ar (ro_mul (up_m rfl up_h) up_h) rfl <| ar (ro_assign up_h) rfl <| ae2 (u4 rfl s4_11) up_h ?_; clear s0_11 s1_11 s4_11; intro e_12 s4_12 s5_12
  refine then_n <| aw_ret <| ret2 (.inr rfl) (by kernel_rfl) (resV_tmp s4_12) (resV_tmp s5_12) (.ro _ rfl) (.ro _ rfl) ?_
  clear s4_12 s5_12  ml_0
  (rw [wrapU_eq]; refine congrArg (fun a => AV.tuple [uA a, uA (x * y % 18446744073709551616)]) ?_; omega)
set_option maxRecDepth 100000 in
set_option maxHeartbeats 4000000 in
theorem div64_low (lo y : Int) (hl : InU64 lo) (hy : InU64 y) (h0 : 0 < y) : FnOk Try.prog 139 [uA 0, uA lo, uA y] (fun q => q = .tuple [uA (lo / y), uA (lo % y)]) := by
  refine fnOk_of (fn := Try.f139) 135 (by kernel_rfl) rfl (by kernel_rfl) (Nat.le_of_ble_eq_true rfl) ?_
  intro e_0 m_0 hA hm_0
  have s0_0 : evA e_0 (.tmp 0) = _ := hA 0 _ rfl
  have s1_0 : evA e_0 (.tmp 1) = _ := hA 1 _ rfl
  have s2_0 : evA e_0 (.tmp 2) = _ := hA 2 _ rfl
  have ml_0 : m_0.length = 0 := by rw [hm_0]; rfl
  clear hA hm_0
  have hl' := hl; have hy' := hy; unfold InU64 at hl' hy'
  refine aw_seq <| at_ <| ar (ro_assign ev_c) rfl <| ar (ro_assign ev_c) rfl <| ae3 (u2 rfl s0_0) (u2 rfl s1_0) (u2 rfl s2_0) ?_; clear s0_0 s1_0 s2_0; intro e_1 s0_1 s1_1 s2_1
  refine then_n <| aw_seq <| aw_seq <| at_ <| ar (ro_move s2_1) rfl <| ar (ro_eql up_h ev_c) rfl ?_
  refine ae4 (u2 rfl s0_1) (u2 rfl s1_1) (u2 rfl s2_1) up_h ?_; clear s0_1 s1_1 s2_1; intro e_2 s0_2 s1_2 s2_2 s20_2
  refine then_n <| aw_case s20_2 (fun hq_3 => ?_) (fun hq_3 => ?_)
  · replace hq_3 := bt hq_3; exfalso; omega
  replace hq_3 := bf hq_3
  refine aw_skip <| then_n <| aw_seq <| aw_seq <| at_ <| ar (ro_move s2_2) rfl <| ar (ro_move (up_m rfl s0_2)) rfl <| ar (ro_leq (up_m rfl up_h) up_h) rfl <| ae4 (up_m rfl (u2 rfl s0_2)) (up_m rfl (u2 rfl s1_2)) (up_m rfl (u2 rfl s2_2)) up_h ?_; clear s0_2 s1_2 s20_2 s2_2; intro e_4 s0_4 s1_4 s2_4 s24_4
  refine then_n <| aw_case s24_4 (fun hq_5 => ?_) (fun hq_5 => ?_)
  · replace hq_5 := bt hq_5; exfalso; omega
  replace hq_5 := bf hq_5
  refine aw_skip <| then_n <| aw_seq <| aw_seq <| at_ <| ar (ro_move s0_4) rfl <| ar (ro_eql up_h ev_c) rfl ?_
  refine ae4 (u2 rfl s0_4) (u2 rfl s1_4) (u2 rfl s2_4) up_h ?_; clear s0_4 s1_4 s24_4 s2_4; intro e_6 s0_6 s1_6 s2_6 s27_6
  refine then_n <| aw_case s27_6 (fun hq_7 => ?_) (fun hq_7 => ?_)
  ·replace hq_7 := bt hq_7
   refine aw_seq <| aw_draw 8 (by kernel_rfl) (by kernel_rfl) (by kernel_rfl) (by kernel_rfl) ?_
   refine dr (ro_move s1_6) rfl <| dr (ro_move (up_m rfl s2_6)) rfl ?_
   (refine dr (ro_quoU (up_m rfl up_h) up_h (by omega) ?_) rfl ?_; · ((first | unfold In64 | unfold InU64); omega))
   refine dr (ro_move (up_m rfl (u2 rfl s1_6))) rfl <| dr (ro_move (u4 rfl s2_6)) rfl ?_
   (refine dr (ro_remU (up_m rfl up_h) up_h (by omega) ?_) rfl ?_; · ((first | unfold In64 | unfold InU64); omega))
   refine dr (ro_assign (up_m rfl (u2 rfl up_h))) rfl <| dr (ro_assign (up_m rfl up_h)) rfl <| ds_nil <| ae2 (up_m rfl up_h) up_h ?_; clear s0_6 s1_6 s27_6 s2_6; intro e_8 s6_8 s7_8
   refine then_n <| aw_ret <| then_r <| ret2 (.inr rfl) (by kernel_rfl) (resV_tmp s6_8) (resV_tmp s7_8) (.ro _ rfl) (.ro _ rfl) ?_
   clear s6_8 s7_8  ml_0
   rfl
  · replace hq_7 := bf hq_7; exfalso; omega
set_option maxRecDepth 100000 in
set_option maxHeartbeats 1000000 in
theorem compare_ok (m n : Int) : FnOk Try.prog 137 [mA m, mA n] (fun q => q = mA (if m < n then -1 else if n < m then 1 else 0)) := by
  refine fnOk_of (fn := Try.f137) 20 (by kernel_rfl) rfl (by kernel_rfl) (Nat.le_of_ble_eq_true rfl) ?_
  intro e_0 m_0 hA hm_0
  have s0_0 : evA e_0 (.tmp 0) = _ := hA 0 _ rfl
  have s1_0 : evA e_0 (.tmp 1) = _ := hA 1 _ rfl
  have ml_0 : m_0.length = 0 := by rw [hm_0]; rfl
  clear hA hm_0
  refine aw_seq <| at_ <| ar (ro_assign ev_c) rfl <| ae2 (up_m rfl s0_0) (up_m rfl s1_0) ?_; clear s0_0 s1_0; intro e_1 s0_1 s1_1
  refine then_n <| aw_seq <| at_ <| ar (ro_move s0_1) rfl <| ar (ro_call (evL_cons up_h evL_nil) rfl (cNaN_ok _) y21_hcf161) rfl <| ar (ro_assign up_h) rfl <| ae3 (up_m rfl (u2 rfl s0_1)) (up_m rfl (u2 rfl s1_1)) up_h ?_; clear s0_1 s1_1; intro e_2 s0_2 s1_2 s5_2
  refine then_n <| aw_seq <| at_ <| ar (ro_move s1_2) rfl <| ar (ro_call (evL_cons up_h evL_nil) rfl (cNaN_ok _) y21_hcf161) rfl <| ar (ro_assign up_h) rfl <| ae4 (up_m rfl (u2 rfl s0_2)) (up_m rfl (u2 rfl s1_2)) (up_m rfl (u2 rfl s5_2)) up_h ?_; clear s0_2 s1_2 s5_2; intro e_3 s0_3 s1_3 s5_3 s6_3
  refine then_n <| aw_seq <| aw_seq <| at_ <| ar (ro_move s5_3) rfl <| ae4 (up_m rfl s0_3) (up_m rfl s1_3) (up_m rfl s6_3) up_h ?_; clear s0_3 s1_3 s5_3 s6_3; intro e_4 s0_4 s1_4 s6_4 s11_4
  refine then_n <| aw_case s11_4 (fun hq_5 => ?_) (fun hq_5 => ?_)
  · cases hq_5
  refine aw_skip <| then_n <| aw_seq <| aw_seq <| at_ <| ar (ro_move s6_4) rfl <| ae3 (up_m rfl s0_4) (up_m rfl s1_4) up_h ?_; clear s0_4 s11_4 s1_4 s6_4; intro e_10 s0_10 s1_10 s13_10
  refine then_n <| aw_case s13_10 (fun hq_11 => ?_) (fun hq_11 => ?_)
  · cases hq_11
  refine aw_skip <| then_n <| aw_seq <| aw_seq <| at_ <| ar (ro_move s0_10) rfl <| ar (ro_move (up_m rfl s1_10)) rfl <| ar (ro_lss (up_m rfl up_h) up_h) rfl <| ae3 (up_m rfl (u2 rfl s0_10)) (up_m rfl (u2 rfl s1_10)) up_h ?_; clear s0_10 s13_10 s1_10; intro e_13 s0_13 s1_13 s16_13
  refine then_n <| aw_case s16_13 (fun hq_14 => ?_) (fun hq_14 => ?_)
  ·replace hq_14 := bt hq_14
   refine aw_seq <| at_ <| ar (ro_assign ev_c) rfl <| ae1 up_h ?_; clear s0_13 s16_13 s1_13; intro e_15 s4_15
   refine then_n <| aw_ret <| then_r <| ret1 (.inr rfl) (by kernel_rfl) (resV_tmp s4_15) (.ro _ rfl) ?_
   clear s4_15  ml_0
   (simp_all; try omega)
  replace hq_14 := bf hq_14
  refine aw_skip <| then_n <| aw_seq <| aw_seq <| at_ <| ar (ro_move s0_13) rfl <| ar (ro_move (up_m rfl s1_13)) rfl <| ar (ro_gtr (up_m rfl up_h) up_h) rfl <| ae1 up_h ?_; clear s0_13 s16_13 s1_13; intro e_16 s19_16
  refine then_n <| aw_case s19_16 (fun hq_17 => ?_) (fun hq_17 => ?_)
  ·replace hq_17 := bt hq_17
   refine aw_seq <| at_ <| ar (ro_assign ev_c) rfl <| ae1 up_h ?_; clear s19_16; intro e_18 s4_18
   refine then_n <| aw_ret <| then_r <| ret1 (.inr rfl) (by kernel_rfl) (resV_tmp s4_18) (.ro _ rfl) ?_
   clear s4_18  ml_0
   (simp_all; try omega)
  replace hq_17 := bf hq_17
  refine aw_skip <| then_n <| aw_seq <| at_ <| ar (ro_assign ev_c) rfl <| ae1 up_h ?_; clear s19_16; intro e_19 s4_19
  refine then_n <| aw_ret <| ret1 (.inr rfl) (by kernel_rfl) (resV_tmp s4_19) (.ro _ rfl) ?_
  clear s4_19  ml_0
  (simp_all; try omega)
set_option maxRecDepth 100000 in
set_option maxHeartbeats 1000000 in
theorem sideErr_ok (n : Int) : FnOk Try.prog 83 [mA n] (fun q => q = mA (unlessE (withinB n 0 5000) 2)) := by
  refine fnOk_of (fn := Try.f83) 6 (by kernel_rfl) rfl (by kernel_rfl) (Nat.le_of_ble_eq_true rfl) ?_
  intro e_0 m_0 hA hm_0
  have s0_0 : evA e_0 (.tmp 0) = _ := hA 0 _ rfl
  have ml_0 : m_0.length = 0 := by rw [hm_0]; rfl
  clear hA hm_0
  refine aw_seq <| at_ <| ar (ro_assign ev_c) rfl <| ae1 (up_m rfl s0_0) ?_; clear s0_0; intro e_1 s0_1
  refine then_n <| aw_seq <| at_ <| ar (ro_move s0_1) rfl <| ar (ro_call (evL_cons up_h (evL_cons ev_c (evL_cons ev_c evL_nil))) rfl (yWithin_ok _ _ _) qhcf97) rfl <| ar (ro_call (evL_cons up_h (evL_cons ev_c evL_nil)) rfl (yUnless_ok _ _) qhcf94) rfl <| ar (ro_assign up_h) rfl <| ae1 up_h ?_; clear s0_1; intro e_2 s2_2
  refine then_n <| aw_ret <| ret1 (.inr rfl) (by kernel_rfl) (resV_tmp s2_2) (.ro _ rfl) ?_
  clear s2_2  ml_0
  rfl
/-- The bend at a joint, over the product of both lengths. -/
def benN (l : Lin) (j : Nat) : Int := ((l.js.getD (j + 1) default).acr - (l.js.getD j default).acr) * (l.bs.getD (j - 1) default).len - ((l.js.getD j default).acr - (l.js.getD (j - 1) default).acr) * (l.bs.getD j default).len
def benD (l : Lin) (j : Nat) : Int := (l.bs.getD (j - 1) default).len * (l.bs.getD j default).len
theorem toNat_pre (n : Nat) : ((n : Int) - 1).toNat = n - 1 := by omega
set_option maxRecDepth 100000 in
set_option maxHeartbeats 4000000 in
theorem bend_ok (l : Lin) (h : Rgt l) (j : Nat) (hj : 1 ≤ j ∧ j + 2 ≤ l.js.length) : FnOk Try.prog 104 [tkA l, mA j] (fun q => q = .tuple [mA (benN l j), mA (benD l j)]) := by
  refine fnOk_of (fn := Try.f104) 79 (by kernel_rfl) rfl (by kernel_rfl) (Nat.le_of_ble_eq_true rfl) ?_
  intro e_0 m_0 hA hm_0
  have s0_0 : evA e_0 (.tmp 0) = _ := hA 0 _ rfl
  have s1_0 : evA e_0 (.tmp 1) = _ := hA 1 _ rfl
  have ml_0 : m_0.length = 0 := by rw [hm_0]; rfl
  clear hA hm_0
  have hn1 := h.n1; have hn0 := h.n0; have hjs := h.js; have j1 := h.jnt (j - 1) (by omega); have j2 := h.jnt j (by omega); have j3 := h.jnt (j + 1) (by omega); have b1 := h.bea (j - 1) (by omega); have b2 := h.bea j (by omega); have m1 := mul_in (x := (l.js.getD (j + 1) default).acr - (l.js.getD j default).acr) (y := (l.bs.getD (j - 1) default).len) 40000 30000 (by omega) (by omega); have m2 := mul_in (x := (l.js.getD j default).acr - (l.js.getD (j - 1) default).acr) (y := (l.bs.getD j default).len) 40000 30000 (by omega) (by omega); have m3 := mul_in (x := (l.bs.getD (j - 1) default).len) (y := (l.bs.getD j default).len) 30000 30000 (by omega) (by omega)
  refine aw_seq <| at_ <| ar (ro_assign ev_c) rfl <| ar (ro_assign ev_c) rfl <| ae2 (u2 rfl s0_0) (u2 rfl s1_0) ?_; clear s0_0 s1_0; intro e_1 s0_1 s1_1
  refine then_n <| aw_seq <| aw_draw 21 (by kernel_rfl) (by kernel_rfl) (by kernel_rfl) (by kernel_rfl) ?_
  refine dr (ro_move s0_1) rfl <| dr (ro_nilR up_h) rfl <| dr (ro_eq (ro_fld_ref qfl141_0 rfl up_h) (by simp only [pS, Value.cells, Nat.reduceAdd, jnE, beE, Int.toNat_natCast, toNat_suc, toNat_pre] <;> rfl)) rfl ?_
  refine dr (ro_eq (ro_fld_ref qfl26_2 rfl up_h) (by simp only [pS, Value.cells, Nat.reduceAdd, jnE, beE, Int.toNat_natCast, toNat_suc, toNat_pre] <;> rfl)) rfl ?_
  refine dr (ro_eq (ro_ld_ref y21_ty23 rfl up_h (nle rfl)) (by simp only [pS, Value.cells, Nat.reduceAdd, jnE, beE, Int.toNat_natCast, toNat_suc, toNat_pre] <;> rfl)) rfl ?_
  refine dr (ro_move (up_m rfl (u4 rfl s1_1))) rfl ?_
  (refine dr (ro_sub' up_h ev_c ?_) rfl ?_; · (unfold In64; omega))
  refine dr (ro_eq (ro_ix y21_sl23 (u2 rfl up_h) up_h (by omega) (by first | (refine idx_map ?_; first | omega | (simp only [lnS]; omega)) | (refine idx_mapI ?_; first | omega | (simp only [lnS]; omega)) | (refine idx_mapN ?_; first | omega | (simp only [lnS]; omega)) | rfl)) (by simp only [pS, Value.cells, Nat.reduceAdd, jnE, beE, Int.toNat_natCast, toNat_suc, toNat_pre] <;> rfl)) rfl ?_
  refine dr (ro_eq (ro_fld_ref qfl87_0 rfl up_h) (by simp only [pS, Value.cells, Nat.reduceAdd, jnE, beE, Int.toNat_natCast, toNat_suc, toNat_pre] <;> rfl)) rfl ?_
  refine dr (ro_eq (ro_ld_ref y21_ty3 rfl up_h (nle rfl)) (by simp only [pS, Value.cells, Nat.reduceAdd, jnE, beE, Int.toNat_natCast, toNat_suc, toNat_pre] <;> rfl)) rfl ?_
  refine dr (ro_move (u2 rfl (u8 rfl s0_1))) rfl <| dr (ro_nilR up_h) rfl <| dr (ro_eq (ro_fld_ref qfl141_0 rfl up_h) (by simp only [pS, Value.cells, Nat.reduceAdd, jnE, beE, Int.toNat_natCast, toNat_suc, toNat_pre] <;> rfl)) rfl ?_
  refine dr (ro_eq (ro_fld_ref qfl26_2 rfl up_h) (by simp only [pS, Value.cells, Nat.reduceAdd, jnE, beE, Int.toNat_natCast, toNat_suc, toNat_pre] <;> rfl)) rfl ?_
  refine dr (ro_eq (ro_ld_ref y21_ty23 rfl up_h (nle rfl)) (by simp only [pS, Value.cells, Nat.reduceAdd, jnE, beE, Int.toNat_natCast, toNat_suc, toNat_pre] <;> rfl)) rfl ?_
  refine dr (ro_move (up_m rfl (u2 rfl (u4 rfl (u8 rfl s1_1))))) rfl <| dr (ro_eq (ro_ix y21_sl23 (up_m rfl up_h) up_h (by omega) (by first | (refine idx_map ?_; first | omega | (simp only [lnS]; omega)) | (refine idx_mapI ?_; first | omega | (simp only [lnS]; omega)) | (refine idx_mapN ?_; first | omega | (simp only [lnS]; omega)) | rfl)) (by simp only [pS, Value.cells, Nat.reduceAdd, jnE, beE, Int.toNat_natCast, toNat_suc, toNat_pre] <;> rfl)) rfl ?_
  refine dr (ro_eq (ro_fld_ref qfl87_0 rfl up_h) (by simp only [pS, Value.cells, Nat.reduceAdd, jnE, beE, Int.toNat_natCast, toNat_suc, toNat_pre] <;> rfl)) rfl ?_
  refine dr (ro_eq (ro_ld_ref y21_ty3 rfl up_h (nle rfl)) (by simp only [pS, Value.cells, Nat.reduceAdd, jnE, beE, Int.toNat_natCast, toNat_suc, toNat_pre] <;> rfl)) rfl ?_
  refine dr (ro_assign (up_m rfl (u8 rfl up_h))) rfl <| dr (ro_assign (up_m rfl up_h)) rfl <| ds_nil <| ae4 (up_m rfl (u4 rfl (u16 rfl s0_1))) (up_m rfl (u4 rfl (u16 rfl s1_1))) (up_m rfl up_h) up_h ?_; clear s0_1 s1_1; intro e_2 s0_2 s1_2 s6_2 s7_2
  refine then_n <| aw_seq <| aw_draw 21 (by kernel_rfl) (by kernel_rfl) (by kernel_rfl) (by kernel_rfl) ?_
  refine dr (ro_move s0_2) rfl <| dr (ro_nilR up_h) rfl <| dr (ro_eq (ro_fld_ref qfl141_0 rfl up_h) (by simp only [pS, Value.cells, Nat.reduceAdd, jnE, beE, Int.toNat_natCast, toNat_suc, toNat_pre] <;> rfl)) rfl ?_
  refine dr (ro_eq (ro_fld_ref qfl26_1 rfl up_h) (by simp only [pS, Value.cells, Nat.reduceAdd, jnE, beE, Int.toNat_natCast, toNat_suc, toNat_pre] <;> rfl)) rfl ?_
  refine dr (ro_eq (ro_ld_ref y21_ty22 rfl up_h (nle rfl)) (by simp only [pS, Value.cells, Nat.reduceAdd, jnE, beE, Int.toNat_natCast, toNat_suc, toNat_pre] <;> rfl)) rfl ?_
  refine dr (ro_move (up_m rfl (u4 rfl s1_2))) rfl <| dr (ro_eq (ro_ix y21_sl22 (up_m rfl up_h) up_h (by omega) (by first | (refine idx_map ?_; first | omega | (simp only [lnS]; omega)) | (refine idx_mapI ?_; first | omega | (simp only [lnS]; omega)) | (refine idx_mapN ?_; first | omega | (simp only [lnS]; omega)) | rfl)) (by simp only [pS, Value.cells, Nat.reduceAdd, jnE, beE, Int.toNat_natCast, toNat_suc, toNat_pre] <;> rfl)) rfl ?_
  refine dr (ro_eq (ro_fld_ref qfl70_0 rfl up_h) (by simp only [pS, Value.cells, Nat.reduceAdd, jnE, beE, Int.toNat_natCast, toNat_suc, toNat_pre] <;> rfl)) rfl ?_
  refine dr (ro_eq (ro_ld_ref y21_ty3 rfl up_h (nle rfl)) (by simp only [pS, Value.cells, Nat.reduceAdd, jnE, beE, Int.toNat_natCast, toNat_suc, toNat_pre] <;> rfl)) rfl ?_
  refine dr (ro_move (up_m rfl (u8 rfl s0_2))) rfl <| dr (ro_nilR up_h) rfl <| dr (ro_eq (ro_fld_ref qfl141_0 rfl up_h) (by simp only [pS, Value.cells, Nat.reduceAdd, jnE, beE, Int.toNat_natCast, toNat_suc, toNat_pre] <;> rfl)) rfl ?_
  refine dr (ro_eq (ro_fld_ref qfl26_1 rfl up_h) (by simp only [pS, Value.cells, Nat.reduceAdd, jnE, beE, Int.toNat_natCast, toNat_suc, toNat_pre] <;> rfl)) rfl ?_
  refine dr (ro_eq (ro_ld_ref y21_ty22 rfl up_h (nle rfl)) (by simp only [pS, Value.cells, Nat.reduceAdd, jnE, beE, Int.toNat_natCast, toNat_suc, toNat_pre] <;> rfl)) rfl ?_
  refine dr (ro_move (u2 rfl (u4 rfl (u8 rfl s1_2)))) rfl ?_
  (refine dr (ro_sub' up_h ev_c ?_) rfl ?_; · (unfold In64; omega))
  refine dr (ro_eq (ro_ix y21_sl22 (u2 rfl up_h) up_h (by omega) (by first | (refine idx_map ?_; first | omega | (simp only [lnS]; omega)) | (refine idx_mapI ?_; first | omega | (simp only [lnS]; omega)) | (refine idx_mapN ?_; first | omega | (simp only [lnS]; omega)) | rfl)) (by simp only [pS, Value.cells, Nat.reduceAdd, jnE, beE, Int.toNat_natCast, toNat_suc, toNat_pre] <;> rfl)) rfl ?_
  refine dr (ro_eq (ro_fld_ref qfl70_0 rfl up_h) (by simp only [pS, Value.cells, Nat.reduceAdd, jnE, beE, Int.toNat_natCast, toNat_suc, toNat_pre] <;> rfl)) rfl ?_
  refine dr (ro_eq (ro_ld_ref y21_ty3 rfl up_h (nle rfl)) (by simp only [pS, Value.cells, Nat.reduceAdd, jnE, beE, Int.toNat_natCast, toNat_suc, toNat_pre] <;> rfl)) rfl ?_
  (refine dr (ro_sub' (u2 rfl (u8 rfl up_h)) up_h ?_) rfl ?_; · (unfold In64; omega))
  refine dr (ro_assign up_h) rfl <| ds_nil <| ae5 (up_m rfl (u4 rfl (u16 rfl s0_2))) (up_m rfl (u4 rfl (u16 rfl s1_2))) (up_m rfl (u4 rfl (u16 rfl s6_2))) (up_m rfl (u4 rfl (u16 rfl s7_2))) up_h ?_; clear s0_2 s1_2 s6_2 s7_2; intro e_3 s0_3 s1_3 s6_3 s7_3 s8_3
  refine then_n <| aw_seq <| aw_draw 21 (by kernel_rfl) (by kernel_rfl) (by kernel_rfl) (by kernel_rfl) ?_
  refine dr (ro_move s0_3) rfl <| dr (ro_nilR up_h) rfl <| dr (ro_eq (ro_fld_ref qfl141_0 rfl up_h) (by simp only [pS, Value.cells, Nat.reduceAdd, jnE, beE, Int.toNat_natCast, toNat_suc, toNat_pre] <;> rfl)) rfl ?_
  refine dr (ro_eq (ro_fld_ref qfl26_1 rfl up_h) (by simp only [pS, Value.cells, Nat.reduceAdd, jnE, beE, Int.toNat_natCast, toNat_suc, toNat_pre] <;> rfl)) rfl ?_
  refine dr (ro_eq (ro_ld_ref y21_ty22 rfl up_h (nle rfl)) (by simp only [pS, Value.cells, Nat.reduceAdd, jnE, beE, Int.toNat_natCast, toNat_suc, toNat_pre] <;> rfl)) rfl ?_
  refine dr (ro_move (up_m rfl (u4 rfl s1_3))) rfl ?_
  (refine dr (ro_add' up_h ev_c ?_) rfl ?_; · (unfold In64; omega))
  refine dr (ro_eq (ro_ix y21_sl22 (u2 rfl up_h) up_h (by omega) (by refine idx_map ?_; first | omega | (simp only [lnS]; omega))) (by simp only [pS, Value.cells, Nat.reduceAdd, jnE, beE, Int.toNat_natCast, toNat_suc, toNat_pre] <;> rfl)) rfl ?_
  refine dr (ro_eq (ro_fld_ref qfl70_0 rfl up_h) (by simp only [pS, Value.cells, Nat.reduceAdd, jnE, beE, Int.toNat_natCast, toNat_suc, toNat_pre] <;> rfl)) rfl ?_
  refine dr (ro_eq (ro_ld_ref y21_ty3 rfl up_h (nle rfl)) (by simp only [pS, Value.cells, Nat.reduceAdd, jnE, beE, Int.toNat_natCast, toNat_suc, toNat_pre] <;> rfl)) rfl ?_
  refine dr (ro_move (u2 rfl (u8 rfl s0_3))) rfl <| dr (ro_nilR up_h) rfl <| dr (ro_eq (ro_fld_ref qfl141_0 rfl up_h) (by simp only [pS, Value.cells, Nat.reduceAdd, jnE, beE, Int.toNat_natCast, toNat_suc, toNat_pre] <;> rfl)) rfl ?_
  refine dr (ro_eq (ro_fld_ref qfl26_1 rfl up_h) (by simp only [pS, Value.cells, Nat.reduceAdd, jnE, beE, Int.toNat_natCast, toNat_suc, toNat_pre] <;> rfl)) rfl ?_
  refine dr (ro_eq (ro_ld_ref y21_ty22 rfl up_h (nle rfl)) (by simp only [pS, Value.cells, Nat.reduceAdd, jnE, beE, Int.toNat_natCast, toNat_suc, toNat_pre] <;> rfl)) rfl ?_
  refine dr (ro_move (up_m rfl (u2 rfl (u4 rfl (u8 rfl s1_3))))) rfl <| dr (ro_eq (ro_ix y21_sl22 (up_m rfl up_h) up_h (by omega) (by first | (refine idx_map ?_; first | omega | (simp only [lnS]; omega)) | (refine idx_mapI ?_; first | omega | (simp only [lnS]; omega)) | (refine idx_mapN ?_; first | omega | (simp only [lnS]; omega)) | rfl)) (by simp only [pS, Value.cells, Nat.reduceAdd, jnE, beE, Int.toNat_natCast, toNat_suc, toNat_pre] <;> rfl)) rfl ?_
  refine dr (ro_eq (ro_fld_ref qfl70_0 rfl up_h) (by simp only [pS, Value.cells, Nat.reduceAdd, jnE, beE, Int.toNat_natCast, toNat_suc, toNat_pre] <;> rfl)) rfl ?_
  refine dr (ro_eq (ro_ld_ref y21_ty3 rfl up_h (nle rfl)) (by simp only [pS, Value.cells, Nat.reduceAdd, jnE, beE, Int.toNat_natCast, toNat_suc, toNat_pre] <;> rfl)) rfl ?_
  (refine dr (ro_sub' (up_m rfl (u8 rfl up_h)) up_h ?_) rfl ?_; · (unfold In64; omega))
  refine dr (ro_assign up_h) rfl <| ds_nil <| ae4 (up_m rfl (u4 rfl (u16 rfl s6_3))) (up_m rfl (u4 rfl (u16 rfl s7_3))) (up_m rfl (u4 rfl (u16 rfl s8_3))) up_h ?_; clear s0_3 s1_3 s6_3 s7_3 s8_3; intro e_4 s6_4 s7_4 s8_4 s9_4
  refine then_n <| aw_seq <| at_ <| ar (ro_move s9_4) rfl <| ar (ro_move (up_m rfl s6_4)) rfl ?_
  (refine ar (ro_mul' (up_m rfl up_h) up_h ?_) rfl ?_; · (unfold In64; omega))
  refine ar (ro_move (up_m rfl (u2 rfl s8_4))) rfl <| ar (ro_move (u4 rfl s7_4)) rfl ?_
  (refine ar (ro_mul' (up_m rfl up_h) up_h ?_) rfl ?_; · (unfold In64; omega))
  (refine ar (ro_sub' (up_m rfl (u2 rfl up_h)) up_h ?_) rfl ?_; · (unfold In64; omega))
  refine ar (ro_move (up_m rfl (u2 rfl (u4 rfl s6_4)))) rfl <| ar (ro_move (u8 rfl s7_4)) rfl ?_
  (refine ar (ro_mul' (up_m rfl up_h) up_h ?_) rfl ?_; · (unfold In64; omega))
  refine ar (ro_assign (up_m rfl (u2 rfl up_h))) rfl <| ar (ro_assign (up_m rfl up_h)) rfl <| ae2 (up_m rfl up_h) up_h ?_; clear s6_4 s7_4 s8_4 s9_4; intro e_5 s4_5 s5_5
  refine then_n <| aw_ret <| ret2 (.inr rfl) (by kernel_rfl) (resV_tmp s4_5) (resV_tmp s5_5) (.ro _ rfl) (.ro _ rfl) ?_
  clear s4_5 s5_5  ml_0
  rfl
end Go.Proofs.Ytonjcljnpcmenaa

/- Contracts: how many bits a word has; a quotient of two words by one. No conditions on a program. -/
namespace Go.Proofs.Ytonjcljnpcmenaa
open Go Go.RowKit Go.Proofs
set_option linter.unusedSimpArgs false
set_option linter.unusedVariables false

/-- How many bits a number has. -/
def bitN (x : Nat) : Nat := if x = 0 then 0 else Nat.log2 x + 1
theorem bitN_of {x t s : Nat} (h1 : x / 2 ^ s < 2 ^ t) (h2 : 2 ^ (t - 1) ≤ x / 2 ^ s) (ht : 1 ≤ t) : bitN x = t + s := by
  have hs : 0 < 2 ^ s := Nat.pow_pos (by decide)
  have a1 : x < 2 ^ t * 2 ^ s := (Nat.div_lt_iff_lt_mul hs).1 h1
  have a2 : 2 ^ (t - 1) * 2 ^ s ≤ x := (Nat.le_div_iff_mul_le hs).1 h2
  rw [← Nat.pow_add] at a1 a2
  have hx : x ≠ 0 := by
    have : 0 < 2 ^ (t - 1 + s) := Nat.pow_pos (by decide)
    omega
  have b1 := (Nat.log2_lt hx).2 a1
  have b2 := (Nat.le_log2 hx).2 a2
  unfold bitN
  rw [if_neg hx]
  omega
theorem bitN_8 : ∀ i : Nat, i < 256 → i ≠ 0 → i < 2 ^ bitN i ∧ 2 ^ (bitN i - 1) ≤ i ∧ 1 ≤ bitN i := by
  intro i hi h0
  unfold bitN
  rw [if_neg h0]
  exact ⟨Nat.lt_log2_self, Nat.log2_self_le h0, by omega⟩
/-- A digit of a quotient: what one looks for, Y the divisor of two digits, u what is left, n the next digit. -/
structure Hal (y1 y0 u n : Int) : Prop where
  hy1 : 2147483648 ≤ y1 ∧ y1 < 4294967296
  hy0 : 0 ≤ y0 ∧ y0 < 4294967296
  hu0 : 0 ≤ u
  hu1 : u < y1 * 4294967296 + y0
  hn0 : 0 ≤ n ∧ n < 4294967296
def halQ (y1 y0 u n : Int) : Int := (u * 4294967296 + n) / (y1 * 4294967296 + y0)
theorem Hal.q {y1 y0 u n : Int} (h : Hal y1 y0 u n) : 0 ≤ halQ y1 y0 u n ∧ halQ y1 y0 u n < 4294967296 := by
  obtain ⟨a, b, c, d, e⟩ := h
  refine ⟨Int.ediv_nonneg (by omega) (by omega), ?_⟩
  unfold halQ
  rw [Int.ediv_lt_iff_lt_mul (by omega)]
  omega
theorem hal_mul (q y1 y0 : Int) : q * (y1 * 4294967296 + y0) = q * y1 * 4294967296 + q * y0 := by rw [Int.mul_add, ← Int.mul_assoc]
/-- The guess is not too small: a guess that is too great is made less by one. -/
theorem Hal.less {y1 y0 u n q r : Int} (h : Hal y1 y0 u n) (h1 : q * y1 + r = u) (hq : halQ y1 y0 u n ≤ q) (hc : 4294967296 ≤ q ∨ 4294967296 * r + n < q * y0) : halQ y1 y0 u n ≤ q - 1 := by
  have hb := h.q
  rcases hc with hc | hc
  · omega
  · obtain ⟨a, b, c, d, e⟩ := h
    have h2 : ¬ q ≤ halQ y1 y0 u n := by
      unfold halQ
      rw [Int.le_ediv_iff_mul_le (by omega), hal_mul]
      omega
    omega
theorem Hal.done {y1 y0 u n q r : Int} (h : Hal y1 y0 u n) (h1 : q * y1 + r = u) (hq : halQ y1 y0 u n ≤ q) (hc : q * y0 ≤ 4294967296 * r + n) : q = halQ y1 y0 u n := by
  obtain ⟨a, b, c, d, e⟩ := h
  have h2 : q ≤ halQ y1 y0 u n := by
    unfold halQ
    rw [Int.le_ediv_iff_mul_le (by omega), hal_mul]
    omega
  omega
theorem Hal.far {y1 y0 u n q r : Int} (h : Hal y1 y0 u n) (h1 : q * y1 + r = u) (hq : halQ y1 y0 u n ≤ q) (hq2 : q ≤ 4294967296) (hr : 4294967296 ≤ r) : q = halQ y1 y0 u n := by
  have hb := h.q
  refine h.done h1 hq ?_
  have h2 := h.hy0
  have h3 := h.hn0
  have h4 := Int.mul_le_mul hq2 (show y0 ≤ 4294967295 by omega) (by omega) (by omega)
  omega
theorem Hal.first {y1 y0 u n : Int} (h : Hal y1 y0 u n) : u / y1 * y1 + (u - u / y1 * y1) = u ∧ halQ y1 y0 u n ≤ u / y1 ∧ u / y1 ≤ 4294967297 ∧ 0 ≤ u - u / y1 * y1 ∧ u - u / y1 * y1 < y1 := by
  obtain ⟨a, b, c, d, e⟩ := h
  have hm := Int.mul_ediv_add_emod u y1
  have hm2 : u / y1 * y1 + u % y1 = u := by rw [Int.mul_comm]; exact hm
  have h1 := Int.emod_nonneg u (show y1 ≠ 0 by omega)
  have h2 := Int.emod_lt_of_pos u (show 0 < y1 by omega)
  refine ⟨by omega, ?_, ?_, by omega, by omega⟩
  · rw [Int.le_ediv_iff_mul_le (by omega)]
    have h3 : halQ y1 y0 u n * (y1 * 4294967296 + y0) ≤ u * 4294967296 + n := by
      unfold halQ; exact Int.ediv_mul_le _ (by omega)
    have h4 : 0 ≤ halQ y1 y0 u n := by unfold halQ; exact Int.ediv_nonneg (by omega) (by omega)
    have h5 := Int.mul_nonneg h4 b.1
    rw [hal_mul] at h3
    omega
  · have h3 : u / y1 < 4294967298 := by
      rw [Int.ediv_lt_iff_lt_mul (by omega)]
      omega
    omega
end Go.Proofs.Ytonjcljnpcmenaa

/- Contracts: how many bits a word has. No conditions on a program. -/
namespace Go.Proofs.Ytonjcljnpcmenaa
open Go Go.RowKit Go.Proofs
set_option linter.unusedSimpArgs false
set_option linter.unusedVariables false
theorem y44_hcf180 : ∀ args w, (callFunc 180 args).run Try.prog w = .ok (.enter 180 args) w := fun _ _ => by kernel_rfl

theorem wrap8 {z : Int} (h0 : 0 ≤ z) (h1 : z < 256) : IntKind.u8.wrap z = z := by
  show z % (256 : Int) = z
  omega
theorem wrap64i {z : Int} (h0 : -9223372036854775808 ≤ z) (h1 : z ≤ 9223372036854775807) : IntKind.i64.wrap z = z := wrap_in ⟨h0, h1⟩
def tabOk (T : ByteArray) : Bool := (List.range 256).all fun k => (T.data.toList.getD k default).toNat == bitN k
theorem bitN_64 {x : Nat} (h : x < 18446744073709551616) : bitN x ≤ 64 := by
  unfold bitN
  split
  · omega
  · next h0 => have := (Nat.log2_lt h0).2 (show x < 2 ^ 64 from h); omega
theorem len_fin {T : ByteArray} (hT : tabOk T = true) {x z a : Int} (s : Nat) (ha : a = s) (h0 : 0 ≤ x ∧ x < 18446744073709551616) (hz : z = x / ((2 ^ s : Nat) : Int)) (hw : 0 ≤ z ∧ z < 256) (hq : (s : Int) = 0 ∨ 1 ≤ z) (hs : s ≤ 56) :
    mA (IntKind.i64.wrap (a + IntKind.i64.wrap ((T.data.toList.getD (IntKind.u8.wrap z).toNat default).toNat : Nat))) = mA ((bitN x.toNat : Nat) : Int) := by
  rw [wrap8 hw.1 hw.2]
  have hk : (T.data.toList.getD z.toNat default).toNat = bitN z.toNat := by
    have := List.all_eq_true.1 hT z.toNat (List.mem_range.2 (by omega))
    simpa using this
  rw [hk]
  have hx : ((x.toNat : Nat) : Int) = x := by omega
  have hzn : z.toNat = x.toNat / 2 ^ s := by
    have : z = ((x.toNat / 2 ^ s : Nat) : Int) := by rw [hz, Int.natCast_ediv, hx]
    omega
  have hb : bitN x.toNat = s + bitN z.toNat := by
    rcases hq with hq | hq
    · have : s = 0 := by omega
      subst this
      rw [hzn]; simp
    · obtain ⟨b1, b2, b3⟩ := bitN_8 z.toNat (by omega) (by omega)
      rw [hzn] at b1 b2 b3
      have := bitN_of b1 b2 b3
      rw [hzn]; omega
  have h64 := bitN_64 (x := x.toNat) (by omega)
  rw [wrap64i (z := ((bitN z.toNat : Nat) : Int)) (by omega) (by omega), wrap64i (by omega) (by omega), ha, hb]
  refine congrArg mA ?_
  omega
def lnA1 (x : Int) : Int := if 4294967296 ≤ x then 32 else 0
def lnX1 (x : Int) : Int := if 4294967296 ≤ x then x / 4294967296 else x
def lnA2 (x : Int) : Int := if 65536 ≤ lnX1 x then lnA1 x + 16 else lnA1 x
def lnX2 (x : Int) : Int := if 65536 ≤ lnX1 x then lnX1 x / 65536 else lnX1 x
def lnA3 (x : Int) : Int := if 256 ≤ lnX2 x then lnA2 x + 8 else lnA2 x
def lnX3 (x : Int) : Int := if 256 ≤ lnX2 x then lnX2 x / 256 else lnX2 x
theorem ln_of (x : Int) (h : 0 ≤ x ∧ x < 18446744073709551616) : ∃ k : Nat, lnA3 x = k ∧ lnX3 x = x / ((2 ^ k : Nat) : Int) ∧ (0 ≤ lnX3 x ∧ lnX3 x < 256) ∧ ((k : Int) = 0 ∨ 1 ≤ lnX3 x) ∧ k ≤ 56 := by
  unfold lnX3 lnA3 lnX2 lnA2 lnX1 lnA1
  (repeat' split) <;> first | exact ⟨56, by omega, by omega, by omega, by omega, by omega⟩ | exact ⟨48, by omega, by omega, by omega, by omega, by omega⟩ | exact ⟨40, by omega, by omega, by omega, by omega, by omega⟩ | exact ⟨32, by omega, by omega, by omega, by omega, by omega⟩ | exact ⟨24, by omega, by omega, by omega, by omega, by omega⟩ | exact ⟨16, by omega, by omega, by omega, by omega, by omega⟩ | exact ⟨8, by omega, by omega, by omega, by omega, by omega⟩ | exact ⟨0, by omega, by simp, by omega, by omega, by omega⟩ | omega
theorem avu0 {m n : Int} (h : m = n) : AV.v (.int .u64 m) = AV.v (.int .u64 n) := by rw [h]
set_option maxRecDepth 100000 in
set_option maxHeartbeats 4000000 in
theorem len64_ok (x : Int) (hx : InU64 x) : FnOk Try.prog 180 [uA x] (fun q => q = mA (bitN x.toNat)) := by
  refine fnOk_of (fn := Try.f180) 25 (by kernel_rfl) rfl (by kernel_rfl) (Nat.le_of_ble_eq_true rfl) ?_
  intro e_0 m_0 hA hm_0
  have s0_0 : evA e_0 (.tmp 0) = _ := hA 0 _ rfl
  have ml_0 : m_0.length = 0 := by rw [hm_0]; rfl
  clear hA hm_0
  have hx' := hx; unfold InU64 at hx'; obtain ⟨k, e1, e2, e3, e4, e5⟩ := ln_of x hx'; have hz := wrap8 e3.1 e3.2; have hb1 : lnA1 x = 0 ∨ lnA1 x = 32 := (by unfold lnA1; split <;> omega); have hb2 : lnA2 x = lnA1 x ∨ lnA2 x = lnA1 x + 16 := (by unfold lnA2; split <;> omega)
  refine aw_seq <| at_ <| ar (ro_assign ev_c) rfl <| ae2 (up_m rfl s0_0) up_h ?_; clear s0_0; intro e_1 s0_1 s2_1
  refine then_n <| aw_seq <| aw_cut (fun e mem => (evA e (.tmp 0) = .v (.int .u64 (lnX1 x))) ∧ (evA e (.tmp 2) = .v (.int .i64 (lnA1 x))) ∧ m_0 = mem) ?_ ?_
  ·
    refine aw_seq <| at_ <| ar (ro_move s0_1) rfl <| ar (ro_geq up_h ev_c) rfl <| ae3 (u2 rfl s0_1) (u2 rfl s2_1) up_h ?_; intro e_3 s0_3 s2_3 s4_3
    refine then_n <| aw_case s4_3 (fun hq_4 => ?_) (fun hq_4 => ?_)
    ·replace hq_4 := bt hq_4
     refine aw_seq <| at_ <| ar (ro_move s0_3) rfl <| ar (ro_shr (c := 4294967296) up_h ev_c (by decide) (by decide)) rfl ?_
     refine ar (ro_assign up_h) rfl <| ae1 up_h ?_; intro e_5 s0_5
     refine then_n <| at_ <| ar (ro_assign ev_c) rfl <| ae2 (up_m rfl s0_5) up_h ?_; intro e_6 s0_6 s2_6
     refine then_n ⟨(s0_6).trans (by (refine avu0 ?_; unfold lnX1; first | rw [if_pos (by assumption)] | rw [if_neg (by assumption)])), (s2_6).trans (by (refine congrArg mA ?_; unfold lnA1; first | rw [if_pos (by assumption)] | rw [if_neg (by assumption)])), rfl⟩
    replace hq_4 := bf hq_4
    refine aw_skip <| then_n ⟨(s0_3).trans (by (refine avu0 ?_; unfold lnX1; first | rw [if_pos (by assumption)] | rw [if_neg (by assumption)])), (s2_3).trans (by (refine congrArg mA ?_; unfold lnA1; first | rw [if_pos (by assumption)] | rw [if_neg (by assumption)])), rfl⟩
  · rintro e_2 _ ⟨s0_2, s2_2, rfl⟩
    refine aw_seq <| aw_cut (fun e mem => (evA e (.tmp 0) = .v (.int .u64 (lnX2 x))) ∧ (evA e (.tmp 2) = .v (.int .i64 (lnA2 x))) ∧ m_0 = mem) ?_ ?_
    ·
      refine aw_seq <| at_ <| ar (ro_move s0_2) rfl <| ar (ro_geq up_h ev_c) rfl <| ae3 (u2 rfl s0_2) (u2 rfl s2_2) up_h ?_; intro e_8 s0_8 s2_8 s8_8
      refine then_n <| aw_case s8_8 (fun hq_9 => ?_) (fun hq_9 => ?_)
      ·replace hq_9 := bt hq_9
       refine aw_seq <| at_ <| ar (ro_move s0_8) rfl <| ar (ro_shr (c := 65536) up_h ev_c (by decide) (by decide)) rfl ?_
       refine ar (ro_assign up_h) rfl <| ae2 up_h (up_m rfl (u2 rfl s2_8)) ?_; intro e_10 s0_10 s2_10
       refine then_n <| at_ <| ar (ro_move s2_10) rfl ?_
       (refine ar (ro_add' up_h ev_c ?_) rfl ?_; · ((first | unfold In64 | unfold InU64); omega))
       refine ar (ro_assign up_h) rfl <| ae2 (up_m rfl (u2 rfl s0_10)) up_h ?_; intro e_11 s0_11 s2_11
       refine then_n ⟨(s0_11).trans (by (refine avu0 ?_; unfold lnX2; first | rw [if_pos (by assumption)] | rw [if_neg (by assumption)])), (s2_11).trans (by (refine congrArg mA ?_; unfold lnA2; first | rw [if_pos (by assumption)] | rw [if_neg (by assumption)])), rfl⟩
      replace hq_9 := bf hq_9
      refine aw_skip <| then_n ⟨(s0_8).trans (by (refine avu0 ?_; unfold lnX2; first | rw [if_pos (by assumption)] | rw [if_neg (by assumption)])), (s2_8).trans (by (refine congrArg mA ?_; unfold lnA2; first | rw [if_pos (by assumption)] | rw [if_neg (by assumption)])), rfl⟩
    · rintro e_7 _ ⟨s0_7, s2_7, rfl⟩
      refine aw_seq <| aw_cut (fun e mem => (evA e (.tmp 0) = .v (.int .u64 (lnX3 x))) ∧ (evA e (.tmp 2) = .v (.int .i64 (lnA3 x))) ∧ m_0 = mem) ?_ ?_
      ·
        refine aw_seq <| at_ <| ar (ro_move s0_7) rfl <| ar (ro_geq up_h ev_c) rfl <| ae3 (u2 rfl s0_7) (u2 rfl s2_7) up_h ?_; intro e_13 s0_13 s2_13 s14_13
        refine then_n <| aw_case s14_13 (fun hq_14 => ?_) (fun hq_14 => ?_)
        ·replace hq_14 := bt hq_14
         refine aw_seq <| at_ <| ar (ro_move s0_13) rfl <| ar (ro_shr (c := 256) up_h ev_c (by decide) (by decide)) rfl ?_
         refine ar (ro_assign up_h) rfl <| ae2 up_h (up_m rfl (u2 rfl s2_13)) ?_; intro e_15 s0_15 s2_15
         refine then_n <| at_ <| ar (ro_move s2_15) rfl ?_
         (refine ar (ro_add' up_h ev_c ?_) rfl ?_; · ((first | unfold In64 | unfold InU64); omega))
         refine ar (ro_assign up_h) rfl <| ae2 (up_m rfl (u2 rfl s0_15)) up_h ?_; intro e_16 s0_16 s2_16
         refine then_n ⟨(s0_16).trans (by (refine avu0 ?_; unfold lnX3; first | rw [if_pos (by assumption)] | rw [if_neg (by assumption)])), (s2_16).trans (by (refine congrArg mA ?_; unfold lnA3; first | rw [if_pos (by assumption)] | rw [if_neg (by assumption)])), rfl⟩
        replace hq_14 := bf hq_14
        refine aw_skip <| then_n ⟨(s0_13).trans (by (refine avu0 ?_; unfold lnX3; first | rw [if_pos (by assumption)] | rw [if_neg (by assumption)])), (s2_13).trans (by (refine congrArg mA ?_; unfold lnA3; first | rw [if_pos (by assumption)] | rw [if_neg (by assumption)])), rfl⟩
      · rintro e_12 _ ⟨s0_12, s2_12, rfl⟩
        refine aw_seq <| at_ <| ar (ro_move s2_12) rfl <| ar (ro_move (up_m rfl s0_12)) rfl <| ar (ro_cv (k' := .u8) up_h (by kernel_rfl) (by kernel_rfl)) rfl ?_
        refine ar (ro_sindex ev_c up_h qun9 (by omega) (by refine idx_str ?_; first | omega | (simp <;> omega; done) | (refine Nat.lt_of_lt_of_le (m := 256) ?_ (by decide +kernel); omega))) rfl ?_
        refine ar (ro_cv (k' := .i64) up_h (by kernel_rfl) (by kernel_rfl)) rfl ?_
        refine ar (ro_add (u4 rfl up_h) up_h) rfl <| ar (ro_assign up_h) rfl <| ae1 up_h ?_; clear s0_12 s2_12; intro e_17 s2_17
        refine then_n <| aw_ret <| ret1 (.inr rfl) (by kernel_rfl) (resV_tmp s2_17) (.ro _ rfl) ?_
        clear s2_17  ml_0
        exact len_fin (by decide +kernel) k e1 hx' e2 e3 e4 e5
set_option maxRecDepth 100000 in
set_option maxHeartbeats 4000000 in
theorem lead64_ok (x : Int) (hx : InU64 x) : FnOk Try.prog 162 [uA x] (fun q => q = mA (64 - bitN x.toNat)) := by
  refine fnOk_of (fn := Try.f162) 6 (by kernel_rfl) rfl (by kernel_rfl) (Nat.le_of_ble_eq_true rfl) ?_
  intro e_0 m_0 hA hm_0
  have s0_0 : evA e_0 (.tmp 0) = _ := hA 0 _ rfl
  have ml_0 : m_0.length = 0 := by rw [hm_0]; rfl
  clear hA hm_0
  have h64 := bitN_64 (x := x.toNat) (by unfold InU64 at hx; omega)
  refine aw_seq <| at_ <| ar (ro_assign ev_c) rfl <| ae1 (up_m rfl s0_0) ?_; clear s0_0; intro e_1 s0_1
  refine then_n <| aw_seq <| at_ <| ar (ro_move s0_1) rfl <| ar (ro_call (evL_cons up_h evL_nil) rfl (len64_ok x hx) y44_hcf180) rfl ?_
  (refine ar (ro_sub' ev_c up_h ?_) rfl ?_; · (unfold In64; omega))
  refine ar (ro_assign up_h) rfl <| ae1 up_h ?_; clear s0_1; intro e_2 s2_2
  refine then_n <| aw_ret <| ret1 (.inr rfl) (by kernel_rfl) (resV_tmp s2_2) (.ro _ rfl) ?_
  clear s2_2  ml_0
  rfl
end Go.Proofs.Ytonjcljnpcmenaa

/- Contracts: a quotient of two words by one. No conditions on a program. -/
namespace Go.Proofs.Ytonjcljnpcmenaa
open Go Go.RowKit Go.Proofs
set_option linter.unusedSimpArgs false
set_option linter.unusedVariables false

/-- Two words without a bit in common: all bits of the second one are below those of the first one. -/
def OrOk (m n : Int) : Prop := ∃ (a c : Nat), c ≤ 64 ∧ m = ((2 ^ c * a : Nat) : Int) ∧ 0 ≤ n ∧ n < ((2 ^ c : Nat) : Int) ∧ InU64 m ∧ InU64 (m + n)
theorem ro_orU {P : Program} {e : Nat → AV} {mem : List Ob} {d : Option Tmp} {x y : Operand} {t t2 ty : TypeId} {pos : String} {af : Array Edge} {g : Option (Nat × Bool)} {m n : Int} (hx : evA e x = .v (.int .u64 m)) (hy : evA e y = .v (.int .u64 n)) (h : OrOk m n) : OpRO P ⟨d, .binOp .or t x y t2, ty, pos, af, g⟩ e mem (.v (.int .u64 (m + n))) :=
  ro_int hx hy fun w => by
    rw [bin_kk ⟨by decide, by decide⟩]
    show (Op.intBits .or .u64 m _).run P w = _
    obtain ⟨a, c, hc, rfl, h0, h1, h2, h3⟩ := h
    obtain ⟨q, rfl⟩ := Int.eq_ofNat_of_zero_le h0
    have hq : q < 2 ^ c := by exact_mod_cast h1
    unfold InU64 at h2 h3
    have e1 : (BitVec.ofInt 64 ((2 ^ c * a : Nat) : Int)).toNat = 2 ^ c * a := by
      rw [BitVec.ofInt_natCast, BitVec.toNat_ofNat, Nat.mod_eq_of_lt (by omega)]
    have e2 : (BitVec.ofInt 64 (q : Int)).toNat = q := by
      rw [BitVec.ofInt_natCast, BitVec.toNat_ofNat, Nat.mod_eq_of_lt (by omega)]
    have e3 : IntKind.u64.wrap ((BitVec.ofInt 64 ((2 ^ c * a : Nat) : Int) ||| BitVec.ofInt 64 (q : Int)).toNat : Nat) = ((2 ^ c * a : Nat) : Int) + (q : Int) := by
      rw [BitVec.toNat_or, e1, e2, ← Nat.two_pow_add_eq_or_of_lt hq, wrapU_eq]
      omega
    unfold Op.intBits
    rw [← e3]; rfl
theorem shp {s : Nat} (h : s ≤ 64) : ((2 ^ min ((s : Int)).toNat IntKind.u64.bits : Nat) : Int) = ((2 ^ s : Nat) : Int) := by
  rw [Int.toNat_natCast, show IntKind.u64.bits = 64 from rfl, Nat.min_eq_left h]
theorem shq {s : Nat} (h : s ≤ 64) : ((2 ^ min ((64 : Int) - (s : Int)).toNat IntKind.u64.bits : Nat) : Int) = ((2 ^ (64 - s) : Nat) : Int) := by
  rw [show ((64 : Int) - (s : Int)).toNat = 64 - s by omega, show IntKind.u64.bits = 64 from rfl, Nat.min_eq_left (by omega)]
/-- What a quotient of two words is made of. -/
structure Dv (hi lo y : Int) (s : Nat) (p q2 Y u v : Int) : Prop where
  lo0 : InU64 lo
  hh : 1 ≤ hi ∧ hi < y
  sb : (64 : Int) - (bitN y.toNat : Nat) = s
  s0 : 2 ≤ s ∧ s ≤ 63
  hp : ((2 ^ s : Nat) : Int) = p
  hq2 : ((2 ^ (64 - s) : Nat) : Int) = q2
  hY : y * p = Y
  Yb : 9223372036854775808 ≤ Y ∧ Y < 18446744073709551616
  hu : hi * p + lo / q2 = u
  ub : 0 ≤ u ∧ u < Y
  hv : lo * p % 18446744073709551616 = v
  hip : InU64 (hi * p)
  ok : OrOk (hi * p) (lo / q2)
theorem dv_of {hi lo y : Int} (hlo : InU64 lo) (hh : 1 ≤ hi ∧ hi < y) (hy : y < 4611686018427387904) : ∃ s p q2 Y u v, Dv hi lo y s p q2 Y u v := by
  unfold InU64 at hlo
  have hy0 : y.toNat ≠ 0 := by omega
  have hb : bitN y.toNat = Nat.log2 y.toNat + 1 := by unfold bitN; rw [if_neg hy0]
  have l1 := Nat.log2_self_le hy0
  have l2 := @Nat.lt_log2_self y.toNat
  have l3 := (Nat.log2_lt hy0 (k := 62)).2 (by omega)
  generalize hk : Nat.log2 y.toNat = k at *
  have hs : 64 - (k + 1) = 63 - k := by omega
  have pw : 2 ^ (63 - k) * 2 ^ k = 9223372036854775808 := by rw [← Nat.pow_add, show 63 - k + k = 63 by omega]
  have pw2 : 2 ^ (63 - k) * 2 ^ (k + 1) = 18446744073709551616 := by rw [Nat.pow_succ, ← Nat.mul_assoc, pw]
  have hq : 64 - (63 - k) = k + 1 := by omega
  have hpp : 0 < 2 ^ (63 - k) := Nat.pow_pos (by decide)
  have hYn : 9223372036854775808 ≤ y.toNat * 2 ^ (63 - k) ∧ y.toNat * 2 ^ (63 - k) < 18446744073709551616 := by
    constructor
    · rw [← pw, Nat.mul_comm (2 ^ (63 - k))]; exact Nat.mul_le_mul_right _ l1
    · rw [← pw2, Nat.mul_comm (2 ^ (63 - k))]; exact Nat.mul_lt_mul_of_pos_right l2 hpp
  have hYi : y * ((2 ^ (63 - k) : Nat) : Int) = ((y.toNat * 2 ^ (63 - k) : Nat) : Int) := by
    rw [Int.natCast_mul, show ((y.toNat : Nat) : Int) = y by omega]
  have hlq : lo / ((2 ^ (k + 1) : Nat) : Int) < ((2 ^ (63 - k) : Nat) : Int) := by
    rw [Int.ediv_lt_iff_lt_mul (by exact_mod_cast Nat.pow_pos (by decide)), ← Int.natCast_mul, pw2]; exact hlo.2
  have hlq0 : 0 ≤ lo / ((2 ^ (k + 1) : Nat) : Int) := Int.ediv_nonneg hlo.1 (Int.natCast_nonneg _)
  have hle : (hi + 1) * ((2 ^ (63 - k) : Nat) : Int) ≤ y * ((2 ^ (63 - k) : Nat) : Int) := Int.mul_le_mul_of_nonneg_right (by omega) (Int.natCast_nonneg _)
  have hh0 : 0 ≤ hi * ((2 ^ (63 - k) : Nat) : Int) := Int.mul_nonneg (by omega) (Int.natCast_nonneg _)
  rw [Int.add_mul, Int.one_mul] at hle
  refine ⟨63 - k, _, _, _, _, _, ⟨hlo, hh, by omega, by omega, rfl, by rw [hq], rfl, by omega, rfl, by omega, rfl, ⟨hh0, by omega⟩, ?_⟩⟩
  refine ⟨hi.toNat, 63 - k, by omega, ?_, hlq0, hlq, ⟨hh0, by omega⟩, ⟨by omega, by omega⟩⟩
  rw [Int.natCast_mul, show ((hi.toNat : Nat) : Int) = hi by omega, Int.mul_comm]
/-- Both digits of the quotient, and what is left. -/
def dq1 (Y u v : Int) : Int := halQ (Y / 4294967296) (Y % 4294967296) u (v / 4294967296)
def dU (Y u v : Int) : Int := u * 4294967296 + v / 4294967296 - dq1 Y u v * Y
def dq0 (Y u v : Int) : Int := halQ (Y / 4294967296) (Y % 4294967296) (dU Y u v) (v % 4294967296)
def dR (Y u v : Int) : Int := dU Y u v * 4294967296 + v % 4294967296 - dq0 Y u v * Y
theorem Y_two (Y : Int) : Y / 4294967296 * 4294967296 + Y % 4294967296 = Y := by omega
theorem Dv.hal1 {hi lo y : Int} {s : Nat} {p q2 Y u v : Int} (h : Dv hi lo y s p q2 Y u v) : Hal (Y / 4294967296) (Y % 4294967296) u (v / 4294967296) := by
  have h1 := h.Yb
  have h2 := h.ub
  have h3 := h.hv
  exact ⟨by omega, by omega, by omega, by omega, by omega⟩
theorem dU_mod (Y u v : Int) : dU Y u v = (u * 4294967296 + v / 4294967296) % Y := by
  unfold dU dq1 halQ
  rw [Y_two, Int.emod_def, Int.mul_comm Y]
theorem Dv.U {hi lo y : Int} {s : Nat} {p q2 Y u v : Int} (h : Dv hi lo y s p q2 Y u v) : 0 ≤ dU Y u v ∧ dU Y u v < Y := by
  have h1 := h.Yb
  rw [dU_mod]
  exact ⟨Int.emod_nonneg _ (by omega), Int.emod_lt_of_pos _ (by omega)⟩
theorem Dv.hal0 {hi lo y : Int} {s : Nat} {p q2 Y u v : Int} (h : Dv hi lo y s p q2 Y u v) : Hal (Y / 4294967296) (Y % 4294967296) (dU Y u v) (v % 4294967296) := by
  have h1 := h.Yb
  have h2 := h.U
  have h3 := h.hv
  exact ⟨by omega, by omega, by omega, by omega, by omega⟩
theorem Dv.R {hi lo y : Int} {s : Nat} {p q2 Y u v : Int} (h : Dv hi lo y s p q2 Y u v) : 0 ≤ dR Y u v ∧ dR Y u v < Y := by
  have h1 := h.Yb
  have : dR Y u v = (dU Y u v * 4294967296 + v % 4294967296) % Y := by
    unfold dR dq0 halQ
    rw [Y_two, Int.emod_def _ Y, Int.mul_comm Y]
  rw [this]
  exact ⟨Int.emod_nonneg _ (by omega), Int.emod_lt_of_pos _ (by omega)⟩
theorem Dv.all {hi lo y : Int} {s : Nat} {p q2 Y u v : Int} (h : Dv hi lo y s p q2 Y u v) : dq1 Y u v * 4294967296 + dq0 Y u v = (hi * 18446744073709551616 + lo) / y ∧ dR Y u v / p = (hi * 18446744073709551616 + lo) % y ∧ 0 ≤ p := by
  have hR := h.R
  have hYb := h.Yb
  have hp0 : 0 < p := by
    rw [← h.hp]; exact_mod_cast Nat.pow_pos (by decide)
  have hq0 : 0 < q2 := by
    rw [← h.hq2]; exact_mod_cast Nat.pow_pos (by decide)
  have hpq : q2 * p = 18446744073709551616 := by
    rw [← h.hp, ← h.hq2, ← Int.natCast_mul, ← Nat.pow_add, show 64 - s + s = 64 by have := h.s0; omega]; rfl
  have hlo := h.lo0
  unfold InU64 at hlo
  -- the low word, moved
  have hl1 : lo * p = lo / q2 * 18446744073709551616 + lo % q2 * p := by
    have := Int.mul_ediv_add_emod lo q2
    calc lo * p = (q2 * (lo / q2) + lo % q2) * p := by rw [this]
      _ = lo / q2 * (q2 * p) + lo % q2 * p := by rw [Int.add_mul, Int.mul_comm q2, Int.mul_assoc]
      _ = _ := by rw [hpq]
  have hl2 : 0 ≤ lo % q2 * p := Int.mul_nonneg (Int.emod_nonneg _ (by omega)) (by omega)
  have hl3 : lo % q2 * p < 18446744073709551616 := by
    rw [← hpq]; exact Int.mul_lt_mul_of_pos_right (Int.emod_lt_of_pos _ hq0) hp0
  have hv := h.hv
  have hu := h.hu
  have hD : (hi * 18446744073709551616 + lo) * p = u * 18446744073709551616 + v := by
    rw [Int.add_mul, Int.mul_assoc, Int.mul_comm 18446744073709551616 p, ← Int.mul_assoc]
    omega
  have e1 : (hi * 18446744073709551616 + lo) * p = (dq1 Y u v * 4294967296 + dq0 Y u v) * Y + dR Y u v := by
    rw [hD, Int.add_mul, Int.mul_assoc, Int.mul_comm 4294967296 Y, ← Int.mul_assoc]
    unfold dR dU
    omega
  have e2 : (hi * 18446744073709551616 + lo) / y = dq1 Y u v * 4294967296 + dq0 Y u v := by
    have : (hi * 18446744073709551616 + lo) * p / (y * p) = (hi * 18446744073709551616 + lo) / y := Int.mul_ediv_mul_of_pos_left _ _ hp0
    rw [← this, h.hY, e1, Int.add_comm, Int.add_mul_ediv_right _ _ (by omega), Int.ediv_eq_zero_of_lt hR.1 hR.2, Int.zero_add]
  refine ⟨e2.symm, ?_, by omega⟩
  have e3 : dR Y u v = (hi * 18446744073709551616 + lo) % y * p := by
    have : (hi * 18446744073709551616 + lo) * p % (y * p) = (hi * 18446744073709551616 + lo) % y * p := by
      rw [Int.mul_comm _ p, Int.mul_comm y p, Int.mul_emod_mul_of_pos _ _ hp0, Int.mul_comm]
    rw [← this, h.hY, e1, Int.add_comm, Int.add_mul_emod_self_right, Int.emod_eq_of_lt hR.1 hR.2]
  rw [e3, Int.mul_ediv_cancel _ (by omega)]
end Go.Proofs.Ytonjcljnpcmenaa

