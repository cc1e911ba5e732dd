/- Decimal numerals, read and written: plain facts. No conditions on a program. -/
import Derived.Lib.ItoaNum
import Derived.Lib.ItoaLen
import Derived.Lib.AtoiTie
import Derived.Lib.Strings
namespace Go.Proofs.YtfmjmngkgmlghaaDoor
open Go Go.Lib
set_option linter.unusedSimpArgs false
set_option linter.unusedVariables false

theorem decFrom_snoc : ∀ (l : List UInt8) (acc : Nat) (b : UInt8), decFrom acc (l ++ [b]) = (decFrom acc l).bind fun n => (digitVal b).map fun d => n * 10 + d
  | [], acc, b => by simp only [List.nil_append, decFrom]; cases digitVal b <;> rfl
  | a :: t, acc, b => by
    simp only [List.cons_append, decFrom]
    cases digitVal a with
    | none => rfl
    | some d => exact decFrom_snoc t _ b
theorem digitVal_of {d : Nat} (h : d < 10) : digitVal (UInt8.ofNat (48 + d)) = some d := by
  have e : (UInt8.ofNat (48 + d)).toNat = 48 + d := by rw [UInt8.toNat_ofNat']; omega
  unfold digitVal
  rw [e, if_pos (by omega)]; congr 1; omega
theorem dec_small {u : Nat} (h : u < 10) : decDigits u = [UInt8.ofNat (48 + u)] := by rw [decDigits, dif_pos h]
theorem dec_big {u : Nat} (h : ¬ u < 10) : decDigits u = decDigits (u / 10) ++ [UInt8.ofNat (48 + u % 10)] := by rw [decDigits, dif_neg h]
theorem decFrom_dec (u : Nat) : decFrom 0 (decDigits u) = some u := by
  induction u using Nat.strongRecOn with
  | _ u ih =>
    by_cases h : u < 10
    · rw [dec_small h]; simp only [decFrom, digitVal_of h]; congr 1; omega
    · rw [dec_big h, decFrom_snoc, ih (u / 10) (by omega), digitVal_of (by omega)]
      simp only [Option.bind_some, Option.map_some]; congr 1; omega
theorem dec_ne (u : Nat) : decDigits u ≠ [] := by
  by_cases h : u < 10
  · rw [dec_small h]; simp
  · rw [dec_big h]; simp
theorem dec_head (u : Nat) (h : 1 ≤ u) : ∀ b : UInt8, (decDigits u)[0]? = some b → b.toNat ≠ 48 := by
  induction u using Nat.strongRecOn with
  | _ u ih =>
    intro b hb
    by_cases h1 : u < 10
    · rw [dec_small h1] at hb
      simp only [List.getElem?_cons_zero, Option.some.injEq] at hb
      rw [← hb, UInt8.toNat_ofNat']; omega
    · rw [dec_big h1, List.getElem?_append_left (List.length_pos_iff.2 (dec_ne _))] at hb
      exact ih (u / 10) (by omega) (by omega) b hb
theorem dec_of : ∀ (k : Nat) (r : List UInt8) (n : Nat), r.length = k → decFrom 0 r = some n → r ≠ [] → (r.length = 1 ∨ ∀ b : UInt8, r[0]? = some b → b.toNat ≠ 48) → decDigits n = r
  | 0, r, n, hk, _, hr, _ => absurd (List.length_eq_zero_iff.1 hk) hr
  | k + 1, r, n, hk, hn, hr, hc => by
    have hsp : r = r.dropLast ++ [r.getLast hr] := (List.dropLast_concat_getLast hr).symm
    have hm : r.dropLast.length = k := by rw [List.length_dropLast]; omega
    generalize hb : r.getLast hr = b at hsp
    generalize hmm : r.dropLast = m at hsp hm
    clear hb hmm
    subst hsp
    rw [decFrom_snoc] at hn
    cases hm0 : decFrom 0 m with
    | none => rw [hm0] at hn; cases hn
    | some q =>
      rw [hm0] at hn
      cases hd : digitVal b with
      | none => rw [hd] at hn; cases hn
      | some d =>
        rw [hd] at hn
        simp only [Option.bind_some, Option.map_some, Option.some.injEq] at hn
        obtain ⟨b1, b2, b3⟩ := digitVal_eq hd
        have hbe : UInt8.ofNat (48 + d) = b := by
          apply UInt8.toNat_inj.1
          rw [UInt8.toNat_ofNat']; omega
        by_cases h0 : m = []
        · subst h0
          have hq : q = 0 := by simpa [decFrom] using hm0.symm
          subst hq
          rw [← hn, dec_small (by omega), show 48 + (0 * 10 + d) = 48 + d by omega, hbe]; rfl
        · have hl : 1 ≤ m.length := List.length_pos_iff.2 h0
          have hc' : ∀ c : UInt8, m[0]? = some c → c.toNat ≠ 48 := fun c hcc => by
            rcases hc with hc | hc
            · rw [List.length_append] at hc; simp at hc; exact absurd hc h0
            · exact hc c (by rw [List.getElem?_append_left (by omega)]; exact hcc)
          have ih := dec_of k m q hm hm0 h0 (.inr hc')
          have hq1 : 1 ≤ q := by
            rcases Nat.eq_zero_or_pos q with h1 | h1
            · subst h1
              rw [dec_small (by decide)] at ih
              exact absurd rfl (hc' 48 (by rw [← ih]; rfl))
            · exact h1
          rw [← hn, dec_big (by omega), show (q * 10 + d) / 10 = q by omega, show (q * 10 + d) % 10 = d by omega, ih, hbe]
/-- A number and whether a text is its numeral, of at most so many digits. -/
def numN (l : List UInt8) : Int := match atoiAll l with
  | .ok v => v
  | .range => atoiSat l
  | _ => 0
def numK (l : List UInt8) (D : Nat) : Bool := match atoiAll l with
  | .ok v => decide (itoa v = l) && decide ((trimPrefix l [45]).length ≤ D)
  | _ => false
/-- Where the digits begin. -/
def numA (l : List UInt8) : Nat := if l[0]? = some 45 then 1 else 0
theorem numA_le {l : List UInt8} : numA l ≤ l.length := by
  unfold numA
  split
  · rename_i h; exact (List.getElem?_eq_some_iff.1 h).1
  · omega
theorem trim_len (l : List UInt8) : (trimPrefix l [45]).length = l.length - numA l := by
  unfold trimPrefix hasPrefix numA
  cases l with
  | nil => rfl
  | cons a t =>
    by_cases h : a = 45
    · subst h; simp
    · simp only [List.getElem?_cons_zero, Option.some.injEq, if_neg h]
      rw [if_neg]
      · omega
      · simp; exact fun e => h e.symm
/-- A numeral as the reference reads it. -/
theorem num_yes {l : List UInt8} {D n : Nat} (hD : D ≤ 17) (h1 : l.drop (numA l) ≠ []) (h2 : l.length - numA l ≤ D) (h3 : ¬ (l[numA l]? = some 48 ∧ 1 < l.length)) (hn : decFrom 0 (l.drop (numA l)) = some n) :
    numK l D = true ∧ numN l = if numA l = 1 then -(n : Int) else n := by
  have hla := numA_le (l := l)
  have hna : numA l ≤ 1 := by unfold numA; split <;> omega
  have hg : ∀ b : UInt8, (l.drop (numA l))[0]? = some b → l[numA l]? = some b := fun b hb => by rw [List.getElem?_drop] at hb; simpa using hb
  have hlen : (l.drop (numA l)).length = l.length - numA l := List.length_drop
  have hcan : (l.drop (numA l)).length = 1 ∨ ∀ b : UInt8, (l.drop (numA l))[0]? = some b → b.toNat ≠ 48 := by
    by_cases hl1 : 1 < l.length
    · refine .inr fun b hb e => h3 ⟨?_, hl1⟩
      rw [hg b hb]; congr 1; exact UInt8.toNat_inj.1 e
    · have := List.length_pos_iff.2 h1
      left; omega
  have hdd := dec_of _ _ n rfl hn h1 hcan
  have hds : decNat (l.drop (numA l)) = some n := by unfold decNat; rw [if_neg (by simpa using h1)]; exact hn
  have hnn : ∀ b : UInt8, (l.drop (numA l))[0]? = some b → b ≠ 45 ∧ b ≠ 43 := fun b hb => by
    obtain ⟨d, hd⟩ := digit_of_decFrom _ _ _ hn 0 b hb
    obtain ⟨q1, q2, _⟩ := digitVal_eq hd
    constructor
    · rintro rfl; exact absurd q1 (by decide)
    · rintro rfl; exact absurd q1 (by decide)
  by_cases ha : l[0]? = some 45
  · have e1 : numA l = 1 := by unfold numA; rw [if_pos ha]
    rw [e1] at h1 h2 h3 hn hdd hds hlen hg hcan ⊢
    obtain ⟨r, rfl⟩ : ∃ r, l = 45 :: r := by
      cases l with
      | nil => cases ha
      | cons a t => simp at ha; exact ⟨t, by rw [ha]⟩
    simp only [List.drop_succ_cons, List.drop_zero] at *
    have hn1 : 1 ≤ n := by
      rcases Nat.eq_zero_or_pos n with hz | hz
      · subst hz
        rw [dec_small (by decide)] at hdd
        exact absurd ⟨by rw [← hdd]; rfl, by rw [← hdd]; decide⟩ h3
      · exact hz
    have ht : atoiAll (45 :: r) = .ok (-(n : Int)) := by
      rw [atoiAll_short _ (by simp at h2 ⊢; omega)]
      simp only [atoi]
      rw [if_pos (by decide), hds]; rfl
    have hi : itoa (-(n : Int)) = 45 :: r := by
      unfold itoa; rw [if_pos (by omega), show (-(n : Int)).natAbs = n by omega, hdd]
    have hk := trim_len (45 :: r)
    rw [e1] at hk
    unfold numK numN
    rw [ht]
    simp only [hi, hk]
    exact ⟨by simp at h2 ⊢; omega, rfl⟩
  · have e1 : numA l = 0 := by unfold numA; rw [if_neg ha]
    rw [e1] at h1 h2 h3 hn hdd hds hlen hg hcan hnn ⊢
    simp only [List.drop_zero] at *
    obtain ⟨a, r, rfl⟩ : ∃ a r, l = a :: r := by
      cases l with
      | nil => exact absurd rfl h1
      | cons a t => exact ⟨a, t, rfl⟩
    have hn2 := hnn a rfl
    have ht : atoiAll (a :: r) = .ok (n : Int) := by
      rw [atoiAll_short _ (by omega)]
      simp only [atoi]
      rw [if_neg (by simpa using hn2.1), if_neg (by simpa using hn2.2), hds]; rfl
    have hi : itoa (n : Int) = a :: r := by
      unfold itoa; rw [if_neg (by omega), show ((n : Int)).toNat = n by omega, hdd]
    have hk := trim_len (a :: r)
    rw [e1] at hk
    unfold numK numN
    rw [ht]
    simp only [hi, hk]
    exact ⟨by simp at h2 ⊢; omega, rfl⟩
theorem itoa_at (v : Int) : (itoa v).drop (numA (itoa v)) = decDigits v.natAbs ∧ ((itoa v)[numA (itoa v)]? = some 48 → (itoa v).length = 1) ∧ (numA (itoa v) = 1 ↔ v < 0) := by
  have hc : ∀ (u : Nat) (b : UInt8), (decDigits u)[0]? = some b → 48 ≤ b.toNat := fun u b hb => by
    obtain ⟨d, hd⟩ := digit_of_decFrom _ _ _ (decFrom_dec u) 0 b hb
    exact (digitVal_eq hd).1
  by_cases h : v < 0
  · have e : itoa v = 45 :: decDigits v.natAbs := by unfold itoa; rw [if_pos h]
    have ea : numA (itoa v) = 1 := by rw [e]; rfl
    rw [ea, e]
    refine ⟨rfl, fun hq => ?_, by simp [h]⟩
    have := dec_head v.natAbs (by omega) 48 (by simpa using hq)
    exact absurd rfl this
  · have e : itoa v = decDigits v.natAbs := by unfold itoa; rw [if_neg h]; congr 1; omega
    have ea : numA (itoa v) = 0 := by
      unfold numA
      rw [if_neg, ]
      rw [e]; intro hq
      have := hc _ _ hq
      exact absurd this (by decide)
    rw [ea, e]
    refine ⟨rfl, fun hq => ?_, by simp [h]⟩
    by_cases h0 : v.natAbs < 10
    · rw [dec_small h0]; rfl
    · exact absurd rfl (dec_head v.natAbs (by omega) 48 hq)
/-- What is not such a numeral. -/
theorem num_no {l : List UInt8} {D : Nat} (h : numK l D = true) : l.drop (numA l) ≠ [] ∧ l.length - numA l ≤ D ∧ ¬ (l[numA l]? = some 48 ∧ 1 < l.length) ∧ (∀ (k : Nat) (b : UInt8), numA l ≤ k → l[k]? = some b → 48 ≤ b.toNat ∧ b.toNat ≤ 57) ∧ itoa (numN l) = l := by
  unfold numK at h
  unfold numN
  rcases hq : atoiAll l with v | _ | _
  rotate_left
  · rw [hq] at h; cases h
  · rw [hq] at h; cases h
  ·
    rw [hq] at h
    simp only [Bool.and_eq_true, decide_eq_true_eq] at h
    obtain ⟨h1, h2⟩ := h
    obtain ⟨i1, i2, i3⟩ := itoa_at v
    rw [trim_len] at h2
    rw [h1] at i1 i2
    refine ⟨by rw [i1]; exact dec_ne _, h2, fun hh => by have := i2 hh.1; omega, fun k b hk hb => ?_, h1⟩
    have hb' : (l.drop (numA l))[k - numA l]? = some b := by rw [List.getElem?_drop, show numA l + (k - numA l) = k by omega]; exact hb
    rw [i1] at hb'
    obtain ⟨d, hd⟩ := digit_of_decFrom _ _ _ (decFrom_dec v.natAbs) _ b hb'
    obtain ⟨q1, q2, _⟩ := digitVal_eq hd
    exact ⟨q1, q2⟩
/-- A numeral of few digits is read back. -/
theorem num_back {v : Int} {D : Nat} (hD : D ≤ 17) (h : (decDigits v.natAbs).length ≤ D) : numK (itoa v) D = true ∧ numN (itoa v) = v := by
  obtain ⟨i1, i2, i3⟩ := itoa_at v
  have hl : (itoa v).length - numA (itoa v) = (decDigits v.natAbs).length := by rw [← i1, List.length_drop]
  have := num_yes (l := itoa v) (D := D) (n := v.natAbs) hD (by rw [i1]; exact dec_ne _) (by omega) (fun hh => by have := i2 hh.1; omega) (by rw [i1]; exact decFrom_dec _)
  refine ⟨this.1, this.2.trans ?_⟩
  split
  · have := i3.1 ‹_›; omega
  · have : ¬ v < 0 := fun hv => ‹¬ _› (i3.2 hv)
    omega
theorem dec_len_le : ∀ (D u : Nat), 1 ≤ D → u < 10 ^ D → (decDigits u).length ≤ D
  | 0, u, h, _ => absurd h (by decide)
  | D + 1, u, _, h => by
    by_cases h0 : u < 10
    · rw [dec_small h0]; simp
    · rw [dec_big h0, List.length_append]
      have hD : 1 ≤ D := by
        rcases Nat.eq_zero_or_pos D with hz | hz
        · subst hz; simp at h; omega
        · exact hz
      have := dec_len_le D (u / 10) hD (by rw [Nat.pow_succ] at h; omega)
      simp; omega
end Go.Proofs.YtfmjmngkgmlghaaDoor
