/- Texts of this claim, one behind the other: lemmas for the statement. -/
import Derived.Lib.ItoaNum
import Derived.Lib.ItoaLen
import Derived.Lib.AtoiTie
import Derived.Lib.Strings
import Derived.Test.YtfmjmngkgmlghaaDoorA32
import Derived.Test.YtfmjmngkgmlghaaDoorProg
import Derived.Shelf.LaysM
import Derived.Shelf.LaysC
import Derived.Shelf.Strconv.Itoa3
import Derived.Shelf.Strconv.AtoiAll
import Derived.Shelf.Strings.Search1
import Derived.Shelf.Strings.Prefix
import Derived.Lib.SmallJoins
import Derived.Lib.AppendIntMem
import Derived.Test.YtfmjmngkgmlghaaDoorM5
/- Decimal numerals, read and written: plain facts. No conditions on a program. -/
namespace Go.Proofs.YtfmjmngkgmlghaaDoor
open Go Go.Lib
set_option linter.unusedSimpArgs false
set_option linter.unusedVariables false

theorem decFrom_snoc : ∀ (l : List UInt8) (acc : Nat) (b : UInt8), decFrom acc (l ++ [b]) = (decFrom acc l).bind fun n => (digitVal b).map fun d => n * 10 + d
  | [], acc, b => by simp only [List.nil_append, decFrom]; cases digitVal b <;> rfl
  | a :: t, acc, b => by
    simp only [List.cons_append, decFrom]
    cases digitVal a with
    | none => rfl
    | some d => exact decFrom_snoc t _ b
theorem digitVal_of {d : Nat} (h : d < 10) : digitVal (UInt8.ofNat (48 + d)) = some d := by
  have e : (UInt8.ofNat (48 + d)).toNat = 48 + d := by rw [UInt8.toNat_ofNat']; omega
  unfold digitVal
  rw [e, if_pos (by omega)]; congr 1; omega
theorem dec_small {u : Nat} (h : u < 10) : decDigits u = [UInt8.ofNat (48 + u)] := by rw [decDigits, dif_pos h]
theorem dec_big {u : Nat} (h : ¬ u < 10) : decDigits u = decDigits (u / 10) ++ [UInt8.ofNat (48 + u % 10)] := by rw [decDigits, dif_neg h]
theorem decFrom_dec (u : Nat) : decFrom 0 (decDigits u) = some u := by
  induction u using Nat.strongRecOn with
  | _ u ih =>
    by_cases h : u < 10
    · rw [dec_small h]; simp only [decFrom, digitVal_of h]; congr 1; omega
    · rw [dec_big h, decFrom_snoc, ih (u / 10) (by omega), digitVal_of (by omega)]
      simp only [Option.bind_some, Option.map_some]; congr 1; omega
theorem dec_ne (u : Nat) : decDigits u ≠ [] := by
  by_cases h : u < 10
  · rw [dec_small h]; simp
  · rw [dec_big h]; simp
theorem dec_head (u : Nat) (h : 1 ≤ u) : ∀ b : UInt8, (decDigits u)[0]? = some b → b.toNat ≠ 48 := by
  induction u using Nat.strongRecOn with
  | _ u ih =>
    intro b hb
    by_cases h1 : u < 10
    · rw [dec_small h1] at hb
      simp only [List.getElem?_cons_zero, Option.some.injEq] at hb
      rw [← hb, UInt8.toNat_ofNat']; omega
    · rw [dec_big h1, List.getElem?_append_left (List.length_pos_iff.2 (dec_ne _))] at hb
      exact ih (u / 10) (by omega) (by omega) b hb
theorem dec_of : ∀ (k : Nat) (r : List UInt8) (n : Nat), r.length = k → decFrom 0 r = some n → r ≠ [] → (r.length = 1 ∨ ∀ b : UInt8, r[0]? = some b → b.toNat ≠ 48) → decDigits n = r
  | 0, r, n, hk, _, hr, _ => absurd (List.length_eq_zero_iff.1 hk) hr
  | k + 1, r, n, hk, hn, hr, hc => by
    have hsp : r = r.dropLast ++ [r.getLast hr] := (List.dropLast_concat_getLast hr).symm
    have hm : r.dropLast.length = k := by rw [List.length_dropLast]; omega
    generalize hb : r.getLast hr = b at hsp
    generalize hmm : r.dropLast = m at hsp hm
    clear hb hmm
    subst hsp
    rw [decFrom_snoc] at hn
    cases hm0 : decFrom 0 m with
    | none => rw [hm0] at hn; cases hn
    | some q =>
      rw [hm0] at hn
      cases hd : digitVal b with
      | none => rw [hd] at hn; cases hn
      | some d =>
        rw [hd] at hn
        simp only [Option.bind_some, Option.map_some, Option.some.injEq] at hn
        obtain ⟨b1, b2, b3⟩ := digitVal_eq hd
        have hbe : UInt8.ofNat (48 + d) = b := by
          apply UInt8.toNat_inj.1
          rw [UInt8.toNat_ofNat']; omega
        by_cases h0 : m = []
        · subst h0
          have hq : q = 0 := by simpa [decFrom] using hm0.symm
          subst hq
          rw [← hn, dec_small (by omega), show 48 + (0 * 10 + d) = 48 + d by omega, hbe]; rfl
        · have hl : 1 ≤ m.length := List.length_pos_iff.2 h0
          have hc' : ∀ c : UInt8, m[0]? = some c → c.toNat ≠ 48 := fun c hcc => by
            rcases hc with hc | hc
            · rw [List.length_append] at hc; simp at hc; exact absurd hc h0
            · exact hc c (by rw [List.getElem?_append_left (by omega)]; exact hcc)
          have ih := dec_of k m q hm hm0 h0 (.inr hc')
          have hq1 : 1 ≤ q := by
            rcases Nat.eq_zero_or_pos q with h1 | h1
            · subst h1
              rw [dec_small (by decide)] at ih
              exact absurd rfl (hc' 48 (by rw [← ih]; rfl))
            · exact h1
          rw [← hn, dec_big (by omega), show (q * 10 + d) / 10 = q by omega, show (q * 10 + d) % 10 = d by omega, ih, hbe]
/-- A number and whether a text is its numeral, of at most so many digits. -/
def numN (l : List UInt8) : Int := match atoiAll l with
  | .ok v => v
  | .range => atoiSat l
  | _ => 0
def numK (l : List UInt8) (D : Nat) : Bool := match atoiAll l with
  | .ok v => decide (itoa v = l) && decide ((trimPrefix l [45]).length ≤ D)
  | _ => false
/-- Where the digits begin. -/
def numA (l : List UInt8) : Nat := if l[0]? = some 45 then 1 else 0
theorem numA_le {l : List UInt8} : numA l ≤ l.length := by
  unfold numA
  split
  · rename_i h; exact (List.getElem?_eq_some_iff.1 h).1
  · omega
theorem trim_len (l : List UInt8) : (trimPrefix l [45]).length = l.length - numA l := by
  unfold trimPrefix hasPrefix numA
  cases l with
  | nil => rfl
  | cons a t =>
    by_cases h : a = 45
    · subst h; simp
    · simp only [List.getElem?_cons_zero, Option.some.injEq, if_neg h]
      rw [if_neg]
      · omega
      · simp; exact fun e => h e.symm
/-- A numeral as the reference reads it. -/
theorem num_yes {l : List UInt8} {D n : Nat} (hD : D ≤ 17) (h1 : l.drop (numA l) ≠ []) (h2 : l.length - numA l ≤ D) (h3 : ¬ (l[numA l]? = some 48 ∧ 1 < l.length)) (hn : decFrom 0 (l.drop (numA l)) = some n) :
    numK l D = true ∧ numN l = if numA l = 1 then -(n : Int) else n := by
  have hla := numA_le (l := l)
  have hna : numA l ≤ 1 := by unfold numA; split <;> omega
  have hg : ∀ b : UInt8, (l.drop (numA l))[0]? = some b → l[numA l]? = some b := fun b hb => by rw [List.getElem?_drop] at hb; simpa using hb
  have hlen : (l.drop (numA l)).length = l.length - numA l := List.length_drop
  have hcan : (l.drop (numA l)).length = 1 ∨ ∀ b : UInt8, (l.drop (numA l))[0]? = some b → b.toNat ≠ 48 := by
    by_cases hl1 : 1 < l.length
    · refine .inr fun b hb e => h3 ⟨?_, hl1⟩
      rw [hg b hb]; congr 1; exact UInt8.toNat_inj.1 e
    · have := List.length_pos_iff.2 h1
      left; omega
  have hdd := dec_of _ _ n rfl hn h1 hcan
  have hds : decNat (l.drop (numA l)) = some n := by unfold decNat; rw [if_neg (by simpa using h1)]; exact hn
  have hnn : ∀ b : UInt8, (l.drop (numA l))[0]? = some b → b ≠ 45 ∧ b ≠ 43 := fun b hb => by
    obtain ⟨d, hd⟩ := digit_of_decFrom _ _ _ hn 0 b hb
    obtain ⟨q1, q2, _⟩ := digitVal_eq hd
    constructor
    · rintro rfl; exact absurd q1 (by decide)
    · rintro rfl; exact absurd q1 (by decide)
  by_cases ha : l[0]? = some 45
  · have e1 : numA l = 1 := by unfold numA; rw [if_pos ha]
    rw [e1] at h1 h2 h3 hn hdd hds hlen hg hcan ⊢
    obtain ⟨r, rfl⟩ : ∃ r, l = 45 :: r := by
      cases l with
      | nil => cases ha
      | cons a t => simp at ha; exact ⟨t, by rw [ha]⟩
    simp only [List.drop_succ_cons, List.drop_zero] at *
    have hn1 : 1 ≤ n := by
      rcases Nat.eq_zero_or_pos n with hz | hz
      · subst hz
        rw [dec_small (by decide)] at hdd
        exact absurd ⟨by rw [← hdd]; rfl, by rw [← hdd]; decide⟩ h3
      · exact hz
    have ht : atoiAll (45 :: r) = .ok (-(n : Int)) := by
      rw [atoiAll_short _ (by simp at h2 ⊢; omega)]
      simp only [atoi]
      rw [if_pos (by decide), hds]; rfl
    have hi : itoa (-(n : Int)) = 45 :: r := by
      unfold itoa; rw [if_pos (by omega), show (-(n : Int)).natAbs = n by omega, hdd]
    have hk := trim_len (45 :: r)
    rw [e1] at hk
    unfold numK numN
    rw [ht]
    simp only [hi, hk]
    exact ⟨by simp at h2 ⊢; omega, rfl⟩
  · have e1 : numA l = 0 := by unfold numA; rw [if_neg ha]
    rw [e1] at h1 h2 h3 hn hdd hds hlen hg hcan hnn ⊢
    simp only [List.drop_zero] at *
    obtain ⟨a, r, rfl⟩ : ∃ a r, l = a :: r := by
      cases l with
      | nil => exact absurd rfl h1
      | cons a t => exact ⟨a, t, rfl⟩
    have hn2 := hnn a rfl
    have ht : atoiAll (a :: r) = .ok (n : Int) := by
      rw [atoiAll_short _ (by omega)]
      simp only [atoi]
      rw [if_neg (by simpa using hn2.1), if_neg (by simpa using hn2.2), hds]; rfl
    have hi : itoa (n : Int) = a :: r := by
      unfold itoa; rw [if_neg (by omega), show ((n : Int)).toNat = n by omega, hdd]
    have hk := trim_len (a :: r)
    rw [e1] at hk
    unfold numK numN
    rw [ht]
    simp only [hi, hk]
    exact ⟨by simp at h2 ⊢; omega, rfl⟩
theorem itoa_at (v : Int) : (itoa v).drop (numA (itoa v)) = decDigits v.natAbs ∧ ((itoa v)[numA (itoa v)]? = some 48 → (itoa v).length = 1) ∧ (numA (itoa v) = 1 ↔ v < 0) := by
  have hc : ∀ (u : Nat) (b : UInt8), (decDigits u)[0]? = some b → 48 ≤ b.toNat := fun u b hb => by
    obtain ⟨d, hd⟩ := digit_of_decFrom _ _ _ (decFrom_dec u) 0 b hb
    exact (digitVal_eq hd).1
  by_cases h : v < 0
  · have e : itoa v = 45 :: decDigits v.natAbs := by unfold itoa; rw [if_pos h]
    have ea : numA (itoa v) = 1 := by rw [e]; rfl
    rw [ea, e]
    refine ⟨rfl, fun hq => ?_, by simp [h]⟩
    have := dec_head v.natAbs (by omega) 48 (by simpa using hq)
    exact absurd rfl this
  · have e : itoa v = decDigits v.natAbs := by unfold itoa; rw [if_neg h]; congr 1; omega
    have ea : numA (itoa v) = 0 := by
      unfold numA
      rw [if_neg, ]
      rw [e]; intro hq
      have := hc _ _ hq
      exact absurd this (by decide)
    rw [ea, e]
    refine ⟨rfl, fun hq => ?_, by simp [h]⟩
    by_cases h0 : v.natAbs < 10
    · rw [dec_small h0]; rfl
    · exact absurd rfl (dec_head v.natAbs (by omega) 48 hq)
/-- What is not such a numeral. -/
theorem num_no {l : List UInt8} {D : Nat} (h : numK l D = true) : l.drop (numA l) ≠ [] ∧ l.length - numA l ≤ D ∧ ¬ (l[numA l]? = some 48 ∧ 1 < l.length) ∧ (∀ (k : Nat) (b : UInt8), numA l ≤ k → l[k]? = some b → 48 ≤ b.toNat ∧ b.toNat ≤ 57) ∧ itoa (numN l) = l := by
  unfold numK at h
  unfold numN
  rcases hq : atoiAll l with v | _ | _
  rotate_left
  · rw [hq] at h; cases h
  · rw [hq] at h; cases h
  ·
    rw [hq] at h
    simp only [Bool.and_eq_true, decide_eq_true_eq] at h
    obtain ⟨h1, h2⟩ := h
    obtain ⟨i1, i2, i3⟩ := itoa_at v
    rw [trim_len] at h2
    rw [h1] at i1 i2
    refine ⟨by rw [i1]; exact dec_ne _, h2, fun hh => by have := i2 hh.1; omega, fun k b hk hb => ?_, h1⟩
    have hb' : (l.drop (numA l))[k - numA l]? = some b := by rw [List.getElem?_drop, show numA l + (k - numA l) = k by omega]; exact hb
    rw [i1] at hb'
    obtain ⟨d, hd⟩ := digit_of_decFrom _ _ _ (decFrom_dec v.natAbs) _ b hb'
    obtain ⟨q1, q2, _⟩ := digitVal_eq hd
    exact ⟨q1, q2⟩
/-- A numeral of few digits is read back. -/
theorem num_back {v : Int} {D : Nat} (hD : D ≤ 17) (h : (decDigits v.natAbs).length ≤ D) : numK (itoa v) D = true ∧ numN (itoa v) = v := by
  obtain ⟨i1, i2, i3⟩ := itoa_at v
  have hl : (itoa v).length - numA (itoa v) = (decDigits v.natAbs).length := by rw [← i1, List.length_drop]
  have := num_yes (l := itoa v) (D := D) (n := v.natAbs) hD (by rw [i1]; exact dec_ne _) (by omega) (fun hh => by have := i2 hh.1; omega) (by rw [i1]; exact decFrom_dec _)
  refine ⟨this.1, this.2.trans ?_⟩
  split
  · have := i3.1 ‹_›; omega
  · have : ¬ v < 0 := fun hv => ‹¬ _› (i3.2 hv)
    omega
theorem dec_len_le : ∀ (D u : Nat), 1 ≤ D → u < 10 ^ D → (decDigits u).length ≤ D
  | 0, u, h, _ => absurd h (by decide)
  | D + 1, u, _, h => by
    by_cases h0 : u < 10
    · rw [dec_small h0]; simp
    · rw [dec_big h0, List.length_append]
      have hD : 1 ≤ D := by
        rcases Nat.eq_zero_or_pos D with hz | hz
        · subst hz; simp at h; omega
        · exact hz
      have := dec_len_le D (u / 10) hD (by rw [Nat.pow_succ] at h; omega)
      simp; omega
end Go.Proofs.YtfmjmngkgmlghaaDoor

/- What Go's library comes to at this program: numerals written and read, the front of a text, a byte in a text. No conditions on a program. -/
namespace Go.Proofs.YtfmjmngkgmlghaaDoor
open Go Go.RowKit Go.Proofs Go.Shelf Go.Lib
set_option linter.unusedSimpArgs false
set_option linter.unusedVariables false
def layM171_ren : Go.Shelf.Ren := ⟨fun | 171 => 24 | 243 => 50 | 246 => 80 | 283 => 98 | 284 => 99 | 285 => 100 | 286 => 101 | 129 => 116 | 317 => 115 | 318 => 117 | 319 => 118 | 320 => 119 | 337 => 126 | 338 => 127 | n => n, fun | 3 => 3 | 9 => 9 | 2 => 2 | 4 => 4 | 171 => 148 | 0 => 0 | 53 => 149 | 37 => 113 | 5 => 5 | 173 => 152 | 212 => 166 | 51 => 167 | 20 => 20 | 213 => 168 | 46 => 155 | 232 => 184 | 233 => 185 | n => n, fun | 17 => 2 | 18 => 5 | 19 => 6 | n => n⟩
theorem layM171 : Go.Proofs.LaysM.n171 Tryd.prog layM171_ren := {
  mixed := by kernel_rfl
  f129 := Tryd.func116.trans (congrArg some (by kernel_rfl))
  f171 := Tryd.func24.trans (congrArg some (by kernel_rfl))
  f243 := Tryd.func50.trans (congrArg some (by kernel_rfl))
  f246 := Tryd.func80.trans (congrArg some (by kernel_rfl))
  f283 := Tryd.func98.trans (congrArg some (by kernel_rfl))
  f284 := Tryd.func99.trans (congrArg some (by kernel_rfl))
  f285 := Tryd.func100.trans (congrArg some (by kernel_rfl))
  f286 := Tryd.func101.trans (congrArg some (by kernel_rfl))
  f317 := Tryd.func115.trans (congrArg some (by kernel_rfl))
  f318 := Tryd.func117.trans (congrArg some (by kernel_rfl))
  f319 := Tryd.func118.trans (congrArg some (by kernel_rfl))
  f320 := Tryd.func119.trans (congrArg some (by kernel_rfl))
  f337 := Tryd.func126.trans (congrArg some (by kernel_rfl))
  f338 := Tryd.func127.trans (congrArg some (by kernel_rfl))
  t0 := Tryd.underlying0
  a0 := Tryd.isAgg0
  z0 := Tryd.sizeOf0
  v0 := Tryd.zeroValue0
  t2 := Tryd.underlying2
  a2 := Tryd.isAgg2
  z2 := Tryd.sizeOf2
  v2 := Tryd.zeroValue2
  t3 := Tryd.underlying3
  a3 := Tryd.isAgg3
  z3 := Tryd.sizeOf3
  v3 := Tryd.zeroValue3
  t4 := Tryd.underlying4
  a4 := Tryd.isAgg4
  z4 := Tryd.sizeOf4
  v4 := Tryd.zeroValue4
  t5 := Tryd.underlying5
  a5 := Tryd.isAgg5
  z5 := Tryd.sizeOf5
  v5 := Tryd.zeroValue5
  t9 := Tryd.underlying9
  a9 := Tryd.isAgg9
  z9 := Tryd.sizeOf9
  v9 := Tryd.zeroValue9
  t20 := Tryd.underlying20
  a20 := Tryd.isAgg20
  z20 := Tryd.sizeOf20
  v20 := Tryd.zeroValue20
  t37 := Tryd.underlying113
  a37 := Tryd.isAgg113
  z37 := Tryd.sizeOf113
  v37 := Tryd.zeroValue113
  t46 := Tryd.underlying155
  a46 := Tryd.isAgg155
  z46 := Tryd.sizeOf155
  v46 := Tryd.zeroValue155
  t51 := Tryd.underlying167
  a51 := Tryd.isAgg167
  z51 := Tryd.sizeOf167
  v51 := Tryd.zeroValue167
  t53 := Tryd.underlying149
  a53 := Tryd.isAgg149
  z53 := Tryd.sizeOf149
  v53 := Tryd.zeroValue149
  t171 := Tryd.underlying148
  a171 := Tryd.isAgg148
  z171 := Tryd.sizeOf148
  v171 := Tryd.zeroValue148
  t173 := Tryd.underlying152
  a173 := Tryd.isAgg152
  z173 := Tryd.sizeOf152
  v173 := Tryd.zeroValue152
  t212 := Tryd.underlying166
  a212 := Tryd.isAgg166
  z212 := Tryd.sizeOf166
  v212 := Tryd.zeroValue166
  t213 := Tryd.underlying168
  a213 := Tryd.isAgg168
  z213 := Tryd.sizeOf168
  t232 := Tryd.underlying184
  a232 := Tryd.isAgg184
  z232 := Tryd.sizeOf184
  v232 := Tryd.zeroValue184
  t233 := Tryd.underlying185
  a233 := Tryd.isAgg185
  z233 := Tryd.sizeOf185
  v233 := Tryd.zeroValue185
  g17 := by kernel_rfl
  g18 := by kernel_rfl
  g19 := by kernel_rfl
  i0 := by kernel_rfl
  i2 := by kernel_rfl
  i3 := by kernel_rfl
  i4 := by kernel_rfl
  i5 := by kernel_rfl
  i9 := by kernel_rfl
  i20 := by kernel_rfl
  i37 := by kernel_rfl
  i46 := by kernel_rfl
  i51 := by kernel_rfl
  i53 := by kernel_rfl
  i171 := by kernel_rfl
  i173 := by kernel_rfl
  i212 := by kernel_rfl
  i232 := by kernel_rfl
  i233 := by kernel_rfl
  m17 := by kernel_rfl
  m18 := by kernel_rfl
  m19 := by kernel_rfl }
def layC172_ren : Go.Shelf.Ren := ⟨fun | 172 => 52 | 244 => 82 | 245 => 83 | 247 => 106 | 279 => 107 | 280 => 108 | 281 => 109 | 282 => 110 | 287 => 122 | 316 => 123 | 171 => 24 | 205 => 124 | 321 => 128 | 322 => 129 | 243 => 50 | 246 => 80 | 283 => 98 | 284 => 99 | 285 => 100 | 286 => 101 | 129 => 116 | 317 => 115 | 318 => 117 | 319 => 118 | 320 => 119 | 337 => 126 | 338 => 127 | n => n, fun | 9 => 9 | 3 => 3 | 75 => 105 | 76 => 106 | 4 => 4 | 5 => 5 | 167 => 156 | 37 => 113 | 0 => 0 | 85 => 157 | 2 => 2 | 168 => 159 | 53 => 149 | 175 => 172 | 46 => 155 | 210 => 176 | 127 => 180 | 145 => 183 | 143 => 181 | 21 => 21 | 171 => 148 | 173 => 152 | 212 => 166 | 51 => 167 | 20 => 20 | 213 => 168 | 232 => 184 | 233 => 185 | 80 => 186 | n => n, fun | 15 => 3 | 16 => 4 | 17 => 2 | 18 => 5 | 19 => 6 | n => n⟩
theorem layC172 : Go.Proofs.LaysC.n172 Tryd.prog layC172_ren := {
  mixed := by kernel_rfl
  f129 := Tryd.func116.trans (congrArg some (by kernel_rfl))
  f171 := Tryd.func24.trans (congrArg some (by kernel_rfl))
  f172 := Tryd.func52.trans (congrArg some (by kernel_rfl))
  f205 := Tryd.func124.trans (congrArg some (by kernel_rfl))
  f243 := Tryd.func50.trans (congrArg some (by kernel_rfl))
  f244 := Tryd.func82.trans (congrArg some (by kernel_rfl))
  f245 := Tryd.func83.trans (congrArg some (by kernel_rfl))
  f246 := Tryd.func80.trans (congrArg some (by kernel_rfl))
  f247 := Tryd.func106.trans (congrArg some (by kernel_rfl))
  f279 := Tryd.func107.trans (congrArg some (by kernel_rfl))
  f280 := Tryd.func108.trans (congrArg some (by kernel_rfl))
  f281 := Tryd.func109.trans (congrArg some (by kernel_rfl))
  f282 := Tryd.func110.trans (congrArg some (by kernel_rfl))
  f283 := Tryd.func98.trans (congrArg some (by kernel_rfl))
  f284 := Tryd.func99.trans (congrArg some (by kernel_rfl))
  f285 := Tryd.func100.trans (congrArg some (by kernel_rfl))
  f286 := Tryd.func101.trans (congrArg some (by kernel_rfl))
  f287 := Tryd.func122.trans (congrArg some (by kernel_rfl))
  f316 := Tryd.func123.trans (congrArg some (by kernel_rfl))
  f317 := Tryd.func115.trans (congrArg some (by kernel_rfl))
  f318 := Tryd.func117.trans (congrArg some (by kernel_rfl))
  f319 := Tryd.func118.trans (congrArg some (by kernel_rfl))
  f320 := Tryd.func119.trans (congrArg some (by kernel_rfl))
  f321 := Tryd.func128.trans (congrArg some (by kernel_rfl))
  f322 := Tryd.func129.trans (congrArg some (by kernel_rfl))
  f337 := Tryd.func126.trans (congrArg some (by kernel_rfl))
  f338 := Tryd.func127.trans (congrArg some (by kernel_rfl))
  t0 := Tryd.underlying0
  a0 := Tryd.isAgg0
  z0 := Tryd.sizeOf0
  v0 := Tryd.zeroValue0
  t2 := Tryd.underlying2
  a2 := Tryd.isAgg2
  z2 := Tryd.sizeOf2
  v2 := Tryd.zeroValue2
  t3 := Tryd.underlying3
  a3 := Tryd.isAgg3
  z3 := Tryd.sizeOf3
  v3 := Tryd.zeroValue3
  t4 := Tryd.underlying4
  a4 := Tryd.isAgg4
  z4 := Tryd.sizeOf4
  v4 := Tryd.zeroValue4
  t5 := Tryd.underlying5
  a5 := Tryd.isAgg5
  z5 := Tryd.sizeOf5
  v5 := Tryd.zeroValue5
  t9 := Tryd.underlying9
  a9 := Tryd.isAgg9
  z9 := Tryd.sizeOf9
  v9 := Tryd.zeroValue9
  t20 := Tryd.underlying20
  a20 := Tryd.isAgg20
  z20 := Tryd.sizeOf20
  v20 := Tryd.zeroValue20
  t21 := Tryd.underlying21
  a21 := Tryd.isAgg21
  z21 := Tryd.sizeOf21
  v21 := Tryd.zeroValue21
  t37 := Tryd.underlying113
  a37 := Tryd.isAgg113
  z37 := Tryd.sizeOf113
  v37 := Tryd.zeroValue113
  t46 := Tryd.underlying155
  a46 := Tryd.isAgg155
  z46 := Tryd.sizeOf155
  v46 := Tryd.zeroValue155
  t51 := Tryd.underlying167
  a51 := Tryd.isAgg167
  z51 := Tryd.sizeOf167
  v51 := Tryd.zeroValue167
  t53 := Tryd.underlying149
  a53 := Tryd.isAgg149
  z53 := Tryd.sizeOf149
  v53 := Tryd.zeroValue149
  t75 := Tryd.underlying105
  a75 := Tryd.isAgg105
  z75 := Tryd.sizeOf105
  v75 := Tryd.zeroValue105
  t76 := Tryd.underlying106
  a76 := Tryd.isAgg106
  z76 := Tryd.sizeOf106
  v76 := Tryd.zeroValue106
  t85 := Tryd.underlying157
  a85 := Tryd.isAgg157
  z85 := Tryd.sizeOf157
  v85 := Tryd.zeroValue157
  t127 := Tryd.underlying180
  a127 := Tryd.isAgg180
  z127 := Tryd.sizeOf180
  v127 := Tryd.zeroValue180
  t143 := Tryd.underlying181
  a143 := Tryd.isAgg181
  z143 := Tryd.sizeOf181
  v143 := Tryd.zeroValue181
  t145 := Tryd.underlying183
  a145 := Tryd.isAgg183
  z145 := Tryd.sizeOf183
  v145 := Tryd.zeroValue183
  t167 := Tryd.underlying156
  a167 := Tryd.isAgg156
  z167 := Tryd.sizeOf156
  v167 := Tryd.zeroValue156
  t168 := Tryd.underlying159
  a168 := Tryd.isAgg159
  z168 := Tryd.sizeOf159
  v168 := Tryd.zeroValue159
  t171 := Tryd.underlying148
  a171 := Tryd.isAgg148
  z171 := Tryd.sizeOf148
  v171 := Tryd.zeroValue148
  t173 := Tryd.underlying152
  a173 := Tryd.isAgg152
  z173 := Tryd.sizeOf152
  v173 := Tryd.zeroValue152
  t175 := Tryd.underlying172
  a175 := Tryd.isAgg172
  z175 := Tryd.sizeOf172
  v175 := Tryd.zeroValue172
  t210 := Tryd.underlying176
  a210 := Tryd.isAgg176
  z210 := Tryd.sizeOf176
  v210 := Tryd.zeroValue176
  t212 := Tryd.underlying166
  a212 := Tryd.isAgg166
  z212 := Tryd.sizeOf166
  v212 := Tryd.zeroValue166
  t213 := Tryd.underlying168
  a213 := Tryd.isAgg168
  z213 := Tryd.sizeOf168
  t232 := Tryd.underlying184
  a232 := Tryd.isAgg184
  z232 := Tryd.sizeOf184
  v232 := Tryd.zeroValue184
  t233 := Tryd.underlying185
  a233 := Tryd.isAgg185
  z233 := Tryd.sizeOf185
  v233 := Tryd.zeroValue185
  g15 := by kernel_rfl
  g16 := by kernel_rfl
  g17 := by kernel_rfl
  g18 := by kernel_rfl
  g19 := by kernel_rfl
  t80 := Tryd.underlying186
  a80 := Tryd.isAgg186
  z80 := Tryd.sizeOf186
  v80 := Tryd.zeroValue186
  i0 := by kernel_rfl
  i2 := by kernel_rfl
  i3 := by kernel_rfl
  i4 := by kernel_rfl
  i5 := by kernel_rfl
  i9 := by kernel_rfl
  i20 := by kernel_rfl
  i21 := by kernel_rfl
  i37 := by kernel_rfl
  i46 := by kernel_rfl
  i51 := by kernel_rfl
  i53 := by kernel_rfl
  i75 := by kernel_rfl
  i76 := by kernel_rfl
  i80 := by kernel_rfl
  i85 := by kernel_rfl
  i127 := by kernel_rfl
  i143 := by kernel_rfl
  i145 := by kernel_rfl
  i167 := by kernel_rfl
  i168 := by kernel_rfl
  i171 := by kernel_rfl
  i173 := by kernel_rfl
  i175 := by kernel_rfl
  i210 := by kernel_rfl
  i212 := by kernel_rfl
  i232 := by kernel_rfl
  i233 := by kernel_rfl
  m15 := by kernel_rfl
  m16 := by kernel_rfl
  m17 := by kernel_rfl
  m18 := by kernel_rfl
  m19 := by kernel_rfl
  c0 := by kernel_rfl
  c2 := by kernel_rfl
  c3 := by kernel_rfl
  c4 := by kernel_rfl
  c5 := by kernel_rfl
  c9 := by kernel_rfl
  c20 := by kernel_rfl
  c21 := by kernel_rfl
  c37 := by kernel_rfl
  c46 := by kernel_rfl
  c51 := by kernel_rfl
  c53 := by kernel_rfl
  c75 := by kernel_rfl
  c76 := by kernel_rfl
  c80 := by kernel_rfl
  c85 := by kernel_rfl
  c127 := by kernel_rfl
  c143 := by kernel_rfl
  c145 := by kernel_rfl
  c167 := by kernel_rfl
  c168 := by kernel_rfl
  c171 := by kernel_rfl
  c173 := by kernel_rfl
  c175 := by kernel_rfl
  c210 := by kernel_rfl
  c212 := by kernel_rfl
  c213 := by kernel_rfl
  c232 := by kernel_rfl
  c233 := by kernel_rfl }
def lay217_ren : Go.Shelf.Ren := ⟨fun | 217 => 102 | 266 => 120 | n => n, fun | 9 => 9 | 5 => 5 | 3 => 3 | n => n, fun | n => n⟩
theorem lay217 : Go.Proofs.Lays.n217 Tryd.prog lay217_ren := {
  mixed := by kernel_rfl
  f217 := Tryd.func102.trans (congrArg some (by kernel_rfl))
  f266 := Tryd.func120.trans (congrArg some (by kernel_rfl))
  t3 := Tryd.underlying3
  a3 := Tryd.isAgg3
  z3 := Tryd.sizeOf3
  v3 := Tryd.zeroValue3
  t5 := Tryd.underlying5
  a5 := Tryd.isAgg5
  z5 := Tryd.sizeOf5
  v5 := Tryd.zeroValue5
  t9 := Tryd.underlying9
  a9 := Tryd.isAgg9
  z9 := Tryd.sizeOf9
  v9 := Tryd.zeroValue9 }
def lay101_ren : Go.Shelf.Ren := ⟨fun | 101 => 53 | 208 => 84 | 206 => 111 | n => n, fun | 9 => 9 | 4 => 4 | 3 => 3 | n => n, fun | n => n⟩
theorem lay101 : Go.Proofs.Lays.n101 Tryd.prog lay101_ren := {
  mixed := by kernel_rfl
  f101 := Tryd.func53.trans (congrArg some (by kernel_rfl))
  f206 := Tryd.func111.trans (congrArg some (by kernel_rfl))
  f208 := Tryd.func84.trans (congrArg some (by kernel_rfl))
  t3 := Tryd.underlying3
  a3 := Tryd.isAgg3
  z3 := Tryd.sizeOf3
  v3 := Tryd.zeroValue3
  t4 := Tryd.underlying4
  a4 := Tryd.isAgg4
  z4 := Tryd.sizeOf4
  v4 := Tryd.zeroValue4
  t9 := Tryd.underlying9
  a9 := Tryd.isAgg9
  z9 := Tryd.sizeOf9
  v9 := Tryd.zeroValue9 }

/-- A block's cells, whole. -/
theorem exN_cells {pr : Nat → Prop} {w : World} {b : Nat} {xs : List Value} (h0 : R0 pr w (.ref (xs.map AV.v)) (.pointer (some ⟨b, 0, none⟩))) (h : ExN w b (xs.map AV.v).length) : ∃ t f, w.heap[b]? = some (.cells xs.toArray t f) := by
  obtain ⟨cs, t, f, h1, h2⟩ := h
  refine ⟨t, f, ?_⟩
  rw [h1]
  congr 2
  cases h0 with
  | ref _ _ _ g q1 q2 q3 q4 =>
    refine Array.ext_getElem? fun i => ?_
    by_cases hi : i < xs.length
    · have c := q3 i (.v xs[i]) (by simp [hi])
      have r := q4 i (.v xs[i]) (by simp [hi])
      generalize g i = v at c r
      cases r
      rw [Nat.zero_add, cell_of_row w b i cs t f h1] at c
      rw [c]; simp [hi]
    · rw [List.length_map] at h2
      rw [Array.getElem?_eq_none (by omega), Array.getElem?_eq_none (by simpa using hi)]
/-- The variables of the library that the numerals lean on. -/
def gX (es er : Value) : List (Nat × List AV) := [(2, (pow10Tab.map (Value.int .u64)).map AV.v), (4, [.v er]), (3, [.v es])]
def isE (v : Value) : Prop := v = .nilIface ∨ ∃ te pe, v = .iface te pe
theorem tab_of {pr : Nat → Prop} {w : World} {es er : Value} (h : GlobR pr w (gX es er)) : TabIs Tryd.prog w "internal/strconv.uint64pow10" .u64 pow10Tab := by
  obtain ⟨h0, h1⟩ := h _ (List.mem_cons_self ..)
  obtain ⟨t, f, h2⟩ := exN_cells h0 h1
  unfold TabIs World.var?
  rw [show Tryd.prog.globalNamed "internal/strconv.uint64pow10" = some 2 by kernel_rfl]
  simp only [Option.bind_some]
  rw [h2]
theorem var_of {pr : Nat → Prop} {w : World} {g : Nat} {v : Value} (h : R0 pr w (.ref [.v v]) (.pointer (some ⟨g, 0, none⟩))) : w.cell? ⟨g, 0, none⟩ = some v := by
  cases h with
  | ref _ _ _ f q1 q2 q3 q4 =>
    have c := q3 0 (.v v) rfl
    have r := q4 0 (.v v) rfl
    generalize f 0 = y at c r
    cases r; exact c
theorem vs_one {pr : Nat → Prop} {w : World} {a : Value} {vs : List Value} (h1 : vs.length = [AV.v a].length) (h2 : ∀ (i : Nat) (b : AV) (x : Value), [AV.v a][i]? = some b → vs[i]? = some x → R0 pr w b x) : vs = [a] := by
  match vs, h1 with
  | [x], _ =>
    have := h2 0 _ x rfl rfl
    cases this; rfl
theorem vs_two {pr : Nat → Prop} {w : World} {a b : Value} {vs : List Value} (h1 : vs.length = [AV.v a, .v b].length) (h2 : ∀ (i : Nat) (c : AV) (x : Value), [AV.v a, .v b][i]? = some c → vs[i]? = some x → R0 pr w c x) : vs = [a, b] := by
  match vs, h1 with
  | [x, y], _ =>
    have r1 := h2 0 _ x rfl rfl
    have r2 := h2 1 _ y rfl rfl
    cases r1; cases r2; rfl
theorem r0_two {pr : Nat → Prop} {w : World} (a b : Value) : R0 pr w (.tuple [.v a, .v b]) (.tuple #[a, b]) :=
  .tuple [.v a, .v b] [a, b] rfl fun i c x hc hx => by
    match i, hc, hx with
    | 0, hc, hx => cases hc; cases hx; exact .v _
    | 1, hc, hx => cases hc; cases hx; exact .v _
theorem itoa_ok (es er : Value) (n : Int) (h : In64 n) : FnOkG Tryd.prog (gX es er) 24 [.v (.int .i64 n)] (fun q => q = .v (.string ⟨(itoa n).toArray⟩)) := by
  intro pr w vs h1 h2 hg
  rw [vs_one h1 h2]
  unfold In64 at h
  refine (Any.strconv_Itoa layM171 n (by omega) (by omega) w (tab_of hg)).mono ?_
  rintro en w' ⟨rfl, k, os, rfl⟩
  exact ⟨_, _, rfl, rfl, .v _, below_grow _ w (Nat.le_refl _) k os⟩
theorem trimPrefix_ok (s p : ByteArray) : FnOk Tryd.prog 53 [.v (.string s), .v (.string p)] (fun q => q = .v (.string ⟨(trimPrefix s.data.toList p.data.toList).toArray⟩)) := by
  intro pr w vs h1 h2
  rw [vs_two h1 h2]
  refine (Any.strings_TrimPrefix lay101 s p w).mono ?_
  rintro en w' ⟨rfl, rfl⟩
  exact ⟨_, _, rfl, rfl, .v _, Ext.refl _⟩
theorem indexByte_ok (s : ByteArray) (c : Int) : FnOk Tryd.prog 102 [.v (.string s), .v (.int .u8 c)] (fun q => q = .v (.int .i64 (indexByte s.data.toList c.toNat.toUInt8))) := by
  intro pr w vs h1 h2
  rw [vs_two h1 h2]
  refine (Any.stringslite_IndexByte lay217 s c w).mono ?_
  rintro en w' ⟨rfl, rfl⟩
  exact ⟨_, _, rfl, rfl, .v _, Ext.refl _⟩
theorem atoi_good (s : ByteArray) (hs : s.size ≤ 1000000000) (v : Int) (h : atoiAll s.data.toList = .ok v) : FnOk Tryd.prog 52 [.v (.string s)] (fun q => q = .tuple [.v (.int .i64 v), .v .nilIface]) := by
  intro pr w vs h1 h2
  rw [vs_one h1 h2]
  refine (Any.strconv_Atoi_ok layC172 s (by omega) v h w).mono ?_
  rintro en w' ⟨rfl, hw⟩
  refine ⟨_, _, rfl, rfl, r0_two _ _, ?_⟩
  rcases hw with rfl | ⟨t, rfl⟩
  · exact Ext.refl _
  · exact Go.Joins.below_bytesWorld _ w _ t (Nat.le_refl _)
/-- The type of the error. -/
def errT : TypeId := layC172_ren.t 168
theorem atoi_bad (es er : Value) (hes : isE es) (her : isE er) (s : ByteArray) (hs : s.size ≤ 1000000000) (h : ∀ v, atoiAll s.data.toList ≠ .ok v) :
    FnOkG Tryd.prog (gX es er) 52 [.v (.string s)] (fun q => ∃ N : Nat, q = .tuple [.v (.int .i64 (numN s.data.toList)), .v (.iface errT (.pointer (some ⟨N, 0, none⟩)))]) := by
  intro pr w vs h1 h2 hg
  rw [vs_one h1 h2]
  have hv1 := var_of (hg (3, [.v es]) (by simp [gX])).1
  have hv2 := var_of (hg (4, [.v er]) (by simp [gX])).1
  unfold numN
  rcases hq : atoiAll s.data.toList with v | _ | _
  · exact absurd hq (h v)
  · refine (Any.strconv_Atoi_syntax layC172 s (by omega) hq es w hv1 hes).mono ?_
    rintro en w' ⟨N, rfl, hN, -, hb⟩
    exact ⟨_, _, rfl, ⟨N, rfl⟩, r0_two _ _, hb⟩
  · refine (Any.strconv_Atoi_range layC172 s (by omega) hq er w hv2 her).mono ?_
    rintro en w' ⟨N, rfl, hN, -, hb⟩
    exact ⟨_, _, rfl, ⟨N, rfl⟩, r0_two _ _, hb⟩
end Go.Proofs.YtfmjmngkgmlghaaDoor

/- Rows of chapter 5: more arguments opened for the abstract machine. No conditions on a program. -/
namespace Go.Proofs.YtfmjmngkgmlghaaDoor
open Go Go.ChangeShapes Go.WideShapes Go.ChangeAt Go.RowKit Go.Joins Go.Deep
set_option linter.unusedSimpArgs false
set_option linter.unusedVariables false
theorem two_ints {W : World} {a b : Int} : R0 (fun _ => False) W (.agg [iA a, iA b]) (.agg #[.int .i64 a, .int .i64 b]) := by
  refine r0_agg (xs := [_, _]) rfl fun i a x ha hx => ?_
  match i, ha, hx with
  | 0, ha, hx => cases ha; cases hx; exact .v _
  | 1, ha, hx => cases ha; cases hx; exact .v _
end Go.Proofs.YtfmjmngkgmlghaaDoor

