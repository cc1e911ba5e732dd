/- StatorRest's walk. -/
import Derived.Test.YtdbglpaejmhbjaaDoorP5
import Derived.Test.YtdbglpaejmhbjaaDoorW15
import Derived.Test.YtdbglpaejmhbjaaDoorReg
import Derived.Deep.Cut
namespace Go.Proofs.YtdbglpaejmhbjaaDoor
open Go Go.RowKit Go.Proofs
set_option linter.unusedSimpArgs false
set_option linter.unusedVariables false

/-- What is left behind so many pulses. -/
def leftF (s : Int) : T2 → List T2 → Nat → T2
  | l, _, 0 => l
  | l, [], _ => l
  | l, c :: cs, k + 1 => leftF s (nearW s (addW l c)).2 cs k
theorem leftF_zero (s : Int) (l : T2) (cs : List T2) : leftF s l cs 0 = l := by cases cs <;> rfl
theorem modGo_at (s : Int) : ∀ (cs : List T2) (l : T2) (k : Nat) (h : k < cs.length), (modGo s l cs)[k]? = some (nearW s (addW (leftF s l cs k) cs[k])) ∧ leftF s l cs (k + 1) = (nearW s (addW (leftF s l cs k) cs[k])).2
  | c :: cs, l, 0, _ => by cases cs <;> exact ⟨rfl, rfl⟩
  | c :: cs, l, k + 1, h => modGo_at s cs (nearW s (addW l c)).2 k (by simpa using h)
theorem near_all {s : Int} (hs : 1 ≤ s ∧ s ≤ 100000) : ∀ (cs : List T2) (l : T2) (k : Nat), Nr s l → (∀ c ∈ cs, Nr s c) → Nr s (leftF s l cs k)
  | cs, l, 0, hl, _ => by cases cs <;> exact hl
  | [], l, k + 1, hl, _ => hl
  | c :: cs, l, k + 1, hl, hc => near_all hs cs _ k (near_next hs hl (hc c (by simp))) (fun x hx => hc x (by simp [hx]))
theorem modE_eq (s : Int) (n : Nat) (cs : List T2) : modE s n cs = wantsE s n cs := by
  unfold modE wantsE
  cases withinB s 1 100000 with
  | false => simp [firstE, unlessE]
  | true =>
    by_cases h : 60 < n
    · have : ¬ (n : Int) ≤ 60 := by omega
      simp [firstE, unlessE, h, this]
    · have : (n : Int) ≤ 60 := by omega
      cases hh : cs.all rightB <;> simp [firstE, unlessE, h, this, hh]
theorem wants_ok {s : Int} {n : Nat} {cs : List T2} (h : wantsE s n cs = 0) : (1 ≤ s ∧ s ≤ 100000) ∧ cs.all rightB = true := by
  unfold wantsE at h
  cases hw : withinB s 1 100000 with
  | false => rw [hw] at h; simp at h
  | true =>
    rw [hw, if_pos rfl] at h
    refine ⟨by simpa [withinB] using hw, ?_⟩
    cases ha : cs.all rightB with
    | true => rfl
    | false => rw [ha] at h; split at h <;> simp [unlessE] at h
theorem scaledE_yes {s : Int} {v : T2} (hs : 1 ≤ s ∧ s ≤ 100000) (h : rightB v = true) : scaledE s v = 0 := by
  have hw : withinB s 1 100000 = true := by simp [withinB]; omega
  simp [scaledE, hw, h, firstE, unlessE]

set_option maxRecDepth 100000 in
set_option maxHeartbeats 1000000 in
theorem statorRest_far (s : Int) (cs : List T2) (a : Option Addr) (n c : Nat) (w : World) (hs : Sts w) (h : 20 < n) : Calls Tryd.prog 6 #[.int .i64 s, .slice a n c] w fun e w' => e = .returned (.bool true) ∧ Ext w w' := by
  have HW := Lib.hid (fun w1 (h : Ext w w1) => awake_any w1 (hs.ext h))
  go_enter Tryd.func6, Tryd.ntmps6
  go_wp2_with (first | (go_at_call 15; (with_reducible refine (HW.out _ (by ((repeat' (first | with_reducible exact Ext.refl _ | with_reducible assumption | with_reducible exact Ext.one _ | with_reducible refine Ext.alloc ?_ _ | with_reducible refine Ext.setCell ?_ ?_ _ | with_reducible refine Ext.drew ?_ | ((with_reducible apply Ext.after'); (with_reducible assumption)))) <;> (try simp) <;> omega))).mono ?_); rintro e w3 ⟨rfl, hx3⟩; obtain ⟨hc3, hf3⟩ := bcell hx3))
  go_ret
  exact ⟨rfl, by ((repeat' (first | with_reducible exact Ext.refl _ | with_reducible assumption | with_reducible exact Ext.one _ | with_reducible refine Ext.alloc ?_ _ | with_reducible refine Ext.setCell ?_ ?_ _ | with_reducible refine Ext.drew ?_ | ((with_reducible apply Ext.after'); (with_reducible assumption)))) <;> (try simp) <;> omega)⟩
set_option maxRecDepth 100000 in
set_option maxHeartbeats 1000000 in
theorem statorRest_no (s : Int) (cs : List T2) (a : Option Addr) (n c : Nat) (w : World) (hs : Sts w) (hl : cs.length = n) (hr : Rd w 2 a n (cells2 cs)) (h20 : n ≤ 20) (h : wantsE s n cs ≠ 0) : Calls Tryd.prog 6 #[.int .i64 s, .slice a n c] w fun e w' => e = .returned (.bool true) ∧ Ext w w' := by
  have HW := Lib.hid (fun w1 (h : Ext w w1) => awake_any w1 (hs.ext h))
  have HE := Lib.hid (fun w1 (h : Ext w w1) => rWantsErr_any s cs a n c w1 hl (by omega) (hr.ext h))
  have h' : (wantsE s n cs != 0) = true := by simp [h]
  generalize wantsE s n cs = E at *
  clear hl h
  go_enter Tryd.func6, Tryd.ntmps6
  go_wp2_with (first | (go_at_call 15; (with_reducible refine (HW.out _ (by ((repeat' (first | with_reducible exact Ext.refl _ | with_reducible assumption | with_reducible exact Ext.one _ | with_reducible refine Ext.alloc ?_ _ | with_reducible refine Ext.setCell ?_ ?_ _ | with_reducible refine Ext.drew ?_ | ((with_reducible apply Ext.after'); (with_reducible assumption)))) <;> (try simp) <;> omega))).mono ?_); rintro e w3 ⟨rfl, hx3⟩; obtain ⟨hc3, hf3⟩ := bcell hx3) | (go_at_call 34; (with_reducible refine (HE.out _ (by ((repeat' (first | with_reducible exact Ext.refl _ | with_reducible assumption | with_reducible exact Ext.one _ | with_reducible refine Ext.alloc ?_ _ | with_reducible refine Ext.setCell ?_ ?_ _ | with_reducible refine Ext.drew ?_ | ((with_reducible apply Ext.after'); (with_reducible assumption)))) <;> (try simp) <;> omega))).mono ?_); rintro e w4 ⟨rfl, hx4⟩; obtain ⟨hc4, hf4⟩ := bcell hx4))
  go_ret
  exact ⟨rfl, by ((repeat' (first | with_reducible exact Ext.refl _ | with_reducible assumption | with_reducible exact Ext.one _ | with_reducible refine Ext.alloc ?_ _ | with_reducible refine Ext.setCell ?_ ?_ _ | with_reducible refine Ext.drew ?_ | ((with_reducible apply Ext.after'); (with_reducible assumption)))) <;> (try simp) <;> omega)⟩

set_option maxRecDepth 100000 in
set_option maxHeartbeats 4000000 in
theorem statorRest_yes (s : Int) (cs : List T2) (a : Option Addr) (n c : Nat) (w : World) (hs : Sts w) (hl : cs.length = n) (hr : Rd w 2 a n (cells2 cs)) (h20 : n ≤ 20) (h : wantsE s n cs = 0) : Calls Tryd.prog 6 #[.int .i64 s, .slice a n c] w fun e w' => e = .returned (.bool true) ∧ Ext w w' := by
  obtain ⟨hsc, hall⟩ := wants_ok h
  have hn : n ≤ 1000 := by omega
  have HW := Lib.hid (fun w1 (h : Ext w w1) => awake_any w1 (hs.ext h))
  have HE := Lib.hid (fun w1 (h : Ext w w1) => rWantsErr_any s cs a n c w1 hl (by omega) (hr.ext h))
  rw [h] at HE
  have HN := Lib.hid (show ∀ k (hk : k < cs.length) w1, Calls Tryd.prog 35 #[.int .i64 s, tV cs[k]] w1 fun e w' => e = .returned (.tuple #[.bool (nearB s cs[k]), .int .i64 0]) ∧ Ext w1 w' from fun k hk w1 => by
    have h1 := isNear_any s cs[k] w1
    rwa [scaledE_yes hsc (List.all_eq_true.1 hall _ (List.getElem_mem hk)), okB, if_pos rfl] at h1)
  have HC := Lib.hid (show ∀ w1, Ext w w1 → Calls Tryd.prog 17 #[.slice a n c] w1 (RetRd (fun x => x) 2 n (cells2 cs) w1) from fun w1 h1 =>
    (rCopyVectors_any (cells2 cs) a n c w1 hn (hr.ext h1) (one_cells2 cs)).mono fun _ _ ⟨a', c', he, hc, ho, hx⟩ => ⟨a', c', he, hc, Rd.of_own ho, hx⟩)
  have HM := Lib.hid (fun w1 a' c' (hx : Ext w w1) (hr' : Rd w1 2 a' n (cells2 cs)) => modulated_any s cs a' n c' w1 (hs.ext hx) hl hn hr' (by rw [modE_eq]; exact h))
  have HL := Lib.hid hl
  have HA := Lib.hid hall
  have HZ := Lib.hid hsc
  have HSt := Lib.hid hs
  clear hl hall h hsc
  go_enter Tryd.func6, Tryd.ntmps6
  go_wp2_with (first | (go_at_call 15; (with_reducible refine (HW.out _ (by ((repeat' (first | with_reducible exact Ext.refl _ | with_reducible assumption | with_reducible exact Ext.one _ | with_reducible refine Ext.alloc ?_ _ | with_reducible refine Ext.setCell ?_ ?_ _ | with_reducible refine Ext.drew ?_ | ((with_reducible apply Ext.after'); (with_reducible assumption)))) <;> (try simp) <;> omega))).mono ?_); rintro e w3 ⟨rfl, hx3⟩; obtain ⟨hc3, hf3⟩ := bcell hx3) | (go_at_call 34; (with_reducible refine (HE.out _ (by ((repeat' (first | with_reducible exact Ext.refl _ | with_reducible assumption | with_reducible exact Ext.one _ | with_reducible refine Ext.alloc ?_ _ | with_reducible refine Ext.setCell ?_ ?_ _ | with_reducible refine Ext.drew ?_ | ((with_reducible apply Ext.after'); (with_reducible assumption)))) <;> (try simp) <;> omega))).mono ?_); rintro e w4 ⟨rfl, hx4⟩; obtain ⟨hc4, hf4⟩ := bcell hx4))
  have hx4' : Ext w w4 := hx3.trans hx4
  go_loopw [5, 6] (fun b i wr => ∃ k : Nat, k ≤ n ∧ i = .int .i64 k ∧ b = .bool ((cs.take k).all (nearB s)) ∧ Ext w wr) (fun _ i _ => n - (intOf i).toNat)
  case atStart => exact ⟨0, Nat.zero_le _, rfl, rfl, hx4'⟩
  case round =>
    obtain ⟨k, hk, rfl, rfl, hx⟩ := hrel
    by_cases hlt : k < n
    · obtain ⟨b, o, rfl, hrow⟩ := (hr.ext hx).2 (by omega)
      have hbb := hrow.1
      have hkl : k < cs.length := by rw [HL.out]; exact hlt
      have hc0 := hrow.at (cells2_get0 hkl)
      have hc1 := hrow.at' (cells2_get1 hkl)
      have HNk := Lib.hid (HN.out k hkl)
      have hall2 : Hid ((cs.take (k + 1)).all (nearB s) = ((cs.take k).all (nearB s) && nearB s cs[k])) := by
        show _ = _
        rw [List.take_succ_eq_append_getElem hkl, List.all_append]; simp
      generalize (cs.take k).all (nearB s) = q at *
      cases q
      all_goals
        go_wp2_with (first | (go_at_call 35; (with_reducible refine (HNk.out _).mono ?_); rintro e w5 ⟨rfl, hx5⟩; obtain ⟨hc5, hf5⟩ := bcell hx5))
        go_roundw
        case rel => exact ⟨k + 1, by omega, by go_num, by rw [hall2.out]; simp, hx.trans hx5⟩
        case measure => simp [intOf]; omega
    · obtain rfl : k = n := by omega
      have e : Hid ((cs.take k).all (nearB s) = cs.all (nearB s)) := by show _ = _; rw [List.take_of_length_le (by rw [HL.out]; exact Nat.le_refl _)]
      rw [e.out]
      generalize hq : cs.all (nearB s) = q
      have HQ := Lib.hid hq
      clear hq
      go_wp2_with (first | (go_at_call 17; (with_reducible refine (HC.out _ (by ((repeat' (first | with_reducible exact Ext.refl _ | with_reducible assumption | with_reducible exact Ext.one _ | with_reducible refine Ext.alloc ?_ _ | with_reducible refine Ext.setCell ?_ ?_ _ | with_reducible refine Ext.drew ?_ | ((with_reducible apply Ext.after'); (with_reducible assumption)))) <;> (try simp) <;> omega))).mono ?_); rintro e w6 ⟨a6, c6, rfl, hcc6, hrd6, hx6⟩; obtain ⟨hc6, hf6⟩ := bcell hx6) | (go_at_call 36; (with_reducible refine (HM.out _ _ _ (by ((repeat' (first | with_reducible exact Ext.refl _ | with_reducible assumption | with_reducible exact Ext.one _ | with_reducible refine Ext.alloc ?_ _ | with_reducible refine Ext.setCell ?_ ?_ _ | with_reducible refine Ext.drew ?_ | ((with_reducible apply Ext.after'); (with_reducible assumption)))) <;> (try simp) <;> omega)) hrd6).mono ?_); rintro e w7 ⟨A1, c1, A2, c2, rfl, hown1, hown2, hx7⟩; obtain ⟨hc7, hf7⟩ := bcell hx7))
      have hgo := fun (j : Nat) (hj : j < cs.length) => modGo_at s cs (0, 0) j hj
      have hml : (modGo s (0, 0) cs).length = k := by rw [modGo_length, HL.out]
      have HGO := Lib.hid hgo
      have HML := Lib.hid hml
      have hnear : Hid (q = true → ∀ j, Nr s (leftF s (0, 0) cs j)) := fun hq j => near_all HZ.out cs (0, 0) j (by unfold Nr; have := HZ.out; simp only; omega)
        (fun c hc => nr_of_near HZ.out (right_sm (List.all_eq_true.1 HA.out c hc)) (List.all_eq_true.1 (HQ.out.trans hq) c hc))
      clear hgo hml HN HC HM HE HW
      generalize hM : modGo s (0, 0) cs = M at *
      clear hM
      obtain ⟨W1, hW1⟩ : ∃ W1, w7.alloc (.cells #[.slice A1 k c1, .slice A2 k c2] 59) = W1 := ⟨_, rfl⟩
      rw [hW1]
      have hx17 : Ext w7 W1 := by rw [← hW1]; ((repeat' (first | with_reducible exact Ext.refl _ | with_reducible assumption | with_reducible exact Ext.one _ | with_reducible refine Ext.alloc ?_ _ | with_reducible refine Ext.setCell ?_ ?_ _ | with_reducible refine Ext.drew ?_ | ((with_reducible apply Ext.after'); (with_reducible assumption)))) <;> (try simp) <;> omega)
      have hsz1 : W1.heap.size = w7.heap.size + 1 := by rw [← hW1]; simp
      have HSZ := Lib.hid hsz1
      clear hsz1
      have hxw : Ext w W1 := by have := hx6.size; ((repeat' (first | with_reducible exact Ext.refl _ | with_reducible assumption | with_reducible exact Ext.one _ | with_reducible refine Ext.alloc ?_ _ | with_reducible refine Ext.setCell ?_ ?_ _ | with_reducible refine Ext.drew ?_ | ((with_reducible apply Ext.after'); (with_reducible assumption)))) <;> (try simp) <;> omega)
      have hb9 : Bx W1 w7.heap.size 59 #[.slice A1 k c1, .slice A2 k c2] := by rw [← hW1]; (repeat' (first | with_reducible assumption | (with_reducible exact Bx.new _ _ _) | ((with_reducible refine Bx.new_at _ _ ?_); (simp; done)) | (with_reducible refine Bx.alloc ?_ _) | (with_reducible refine Bx.drew ?_) | ((with_reducible apply Bx.ext'); (with_reducible assumption))))
      have hr1 := (Rd.of_own hown1).ext hx17
      have hr2 := (Rd.of_own hown2).ext hx17
      clear hW1 hown1 hown2 hc7 hf7
      go_loopw [13] (fun i wr => ∃ (j : Nat) (u v : T2), j ≤ k ∧ i = .int .i64 j ∧ Bx wr (w7.heap.size + 1) 24 #[.int .i64 u.1, .int .i64 u.2] ∧ Bx wr (w7.heap.size + 1 + 1) 24 #[.int .i64 v.1, .int .i64 v.2] ∧ Hid (leftF s (0, 0) cs j = subW u v) ∧ Ext W1 wr) (fun i _ => k - (intOf i).toNat)
      case atStart => exact ⟨0, (0, 0), (0, 0), Nat.zero_le _, rfl, (Bx.new_at _ _ HSZ.out.symm).alloc _, Bx.new_at _ _ (by simp [HSZ.out]), (by show _ = _; rw [leftF_zero]; decide +kernel), ((Ext.refl W1).alloc _).alloc _⟩
      case round =>
        obtain ⟨j, u, v, hj, rfl, hbu, hbv, hd, hx⟩ := hrel
        obtain ⟨y0, y1, y2, y3, y4⟩ := (hb9.ext hx).at2
        obtain ⟨a0, a1, a2, a3, a4⟩ := hbu.at2
        obtain ⟨b0, b1, b2, b3, b4⟩ := hbv.at2
        by_cases hlt : j < k
        · have hjl : j < cs.length := by rw [HL.out]; exact hlt
          obtain ⟨bw, ow, rfl, hrowwA⟩ := (hr.ext hxw).2 (by omega)
          obtain ⟨g1, o1, rfl, hrow1A⟩ := hr1.2 (by omega)
          obtain ⟨g2, o2, rfl, hrow2A⟩ := hr2.2 (by omega)
          have hroww := hrowwA.ext hx
          have hrow1 := hrow1A.ext hx
          have hrow2 := hrow2A.ext hx
          have hbw := hroww.1
          have hbg1 := hrow1.1
          have hbg2 := hrow2.1
          have hw0 := hroww.at (cells2_get0 hjl)
          have hw1 := hroww.at' (cells2_get1 hjl)
          obtain ⟨m1, m2⟩ := HGO.out j hjl
          have hjm : j < M.length := by rw [HML.out]; exact hlt
          have hMj : M[j] = nearW s (addW (leftF s (0, 0) cs j) cs[j]) := by
            rw [List.getElem?_eq_getElem hjm] at m1; exact Option.some.inj m1
          obtain ⟨f1, f2⟩ := nearW_form s (leftF s (0, 0) cs j) cs[j]
          rw [← hMj] at f1 f2 m2
          have hj1 : j < (M.map (·.1)).length := by simpa using hjm
          have hj2 : j < (M.map (·.2)).length := by simpa using hjm
          have hs1 := hrow1.at (ints_get hj1)
          have hl1 := hrow2.at (cells2_get0 hj2)
          have hl2 := hrow2.at' (cells2_get1 hj2)
          simp only [List.getElem_map] at hs1 hl1 hl2
          have hsum := left_sum s u v cs[j] (stV M[j].1) _ _ hd.out f2
          have hsm := stV_small f1
          have hnr := fun hq => (near_of_nr HZ.out (hnear.out hq (j + 1)))
          rw [m2] at hnr
          have HV := Lib.hid (show ∀ w1, Sts w1 → Calls Tryd.prog 37 #[.int .i64 M[j].1] w1 fun e w' => e = .returned (.tuple #[tV (stV M[j].1), .int .i64 0]) ∧ Ext w1 w' from fun w1 h1 => by
            have h2 := stateVector_any M[j].1 w1 h1
            rwa [f1, show unlessE true 2 = 0 from rfl, okV, if_pos rfl] at h2)
          have HB1 := Lib.hid (bWithin_any (stV M[j].1).1 (-2) 2)
          have HB2 := Lib.hid (bWithin_any (stV M[j].1).2 (-2) 2)
          rw [hsm.1] at HB1
          rw [hsm.2] at HB2
          have HT1 := Lib.hid (bTAdd_any u cs[j])
          have HT2 := Lib.hid (show ∀ w1, Calls Tryd.prog 38 #[tV v, .agg #[.int .i64 (wrap64 (s * (stV M[j].1).1)), .int .i64 (wrap64 (s * (stV M[j].1).2))]] w1 fun e w' => e = .returned (tV (addW v (byW (stV M[j].1) s))) ∧ Ext w1 w' from fun w1 => bTAdd_any v (byW (stV M[j].1) s) w1)
          have HTS := Lib.hid (show ∀ w1, Calls Tryd.prog 39 #[tV (addW u cs[j]), tV (addW v (byW (stV M[j].1) s))] w1 fun e w' => e = .returned (tV M[j].2) ∧ Ext w1 w' from fun w1 => by
            have h2 := bTSub_any (addW u cs[j]) (addW v (byW (stV M[j].1) s)) w1
            rwa [← hsum] at h2)
          have HNr := Lib.hid (show q = true → ∀ w1, Calls Tryd.prog 35 #[.int .i64 s, tV M[j].2] w1 fun e w' => e = .returned (.tuple #[.bool true, .int .i64 0]) ∧ Ext w1 w' from fun hq w1 => by
            have h1 := isNear_any s M[j].2 w1
            rwa [scaledE_yes HZ.out (hnr hq).2, okB, if_pos rfl, (hnr hq).1] at h1)
          have hnext : Hid (leftF s (0, 0) cs (j + 1) = subW (addW u cs[j]) (addW v (byW (stV M[j].1) s))) := m2.trans hsum
          clear hsum hnr m1 m2 hMj f1 f2 hsm
          generalize addW v (byW (stV M[j].1) s) = v' at *
          generalize addW u cs[j] = u' at *
          generalize stV M[j].1 = x at *
          go_wp2_with (first | (go_at_call 37; (with_reducible refine (HV.out _ (HSt.out.ext (by ((repeat' (first | with_reducible exact Ext.refl _ | with_reducible assumption | with_reducible exact Ext.one _ | with_reducible refine Ext.alloc ?_ _ | with_reducible refine Ext.setCell ?_ ?_ _ | with_reducible refine Ext.drew ?_ | ((with_reducible apply Ext.after'); (with_reducible assumption)))) <;> (try simp) <;> omega)))).mono ?_); rintro e w8 ⟨rfl, hx8⟩; obtain ⟨hc8, hf8⟩ := bcell hx8; have q0 : w7.heap.size < w8.heap.size := (by have := hx8.size; omega); have q1 : bw < w8.heap.size := (by have := hx8.size; omega); have q2 : w7.heap.size + 1 < w8.heap.size := (by have := hx8.size; omega); have q3 : w7.heap.size + 1 + 1 < w8.heap.size := (by have := hx8.size; omega)) | (go_at_call 22; (with_reducible refine (HB1.out _).mono ?_); rintro e wz ⟨rfl, rfl⟩) | (go_at_call 22; (with_reducible refine (HB2.out _).mono ?_); rintro e wz ⟨rfl, rfl⟩))
          apply wp_region_ext 17 [.is _, .is _, .is _, .is _, .is _, .is _, .is _, .is _, .is _, .is _, .is _, .is _, .is _, .is _, .is _, .is _, .is _] (by kernel_rfl) (by kernel_rfl) (by kernel_rfl) (fun V => ?steps) (fun V w9 hx_w9 hf_w9 => ?tail)
          case steps =>
            simp only [List.take, Region.binds, mode_text, mode_gc, if_true, true_and, Bool.false_eq_true, if_false, List.drop, StepsU, StepsG, putsAll, FactsAt, Fs, val, List.getD_cons_zero, List.getD_cons_succ, List.getD_nil, SF.is, SF.rd, SF.any, SF.box, Option.getD_some, Option.getD_none, Act.put, List.setIfInBounds_toArray, List.set_cons_zero, List.set_cons_succ]
            refine ⟨?_, ?_, ?_, ?_, ?_, ?_, ?_, ?_, ?_, ?_, ?_, ?_, ?_, ?_, ?_, ?_, ?_, trivial⟩ <;> (intro w2 hx hf; obtain ⟨hc, hfz⟩ := bcell hx; go_simp; (try simp only [wrap_eq]); first
              | exact Post.mk rfl (Ext.refl _)
              | rfl
              | (refine Post.mk ?_ (Ext.refl _); (simp <;> omega); done)
              | exact Post.mk ⟨_, _, rfl, Nat.le_refl _, Rd.new _ _ _ _ _ rfl⟩ ((Ext.refl _).alloc _)
              | (refine Post.mk ⟨_, rfl, ?_, Bx.new _ _ _⟩ ((Ext.refl _).alloc _); have := hx.size; (try simp at this); (try simp); omega)
              | ((with_reducible refine CallTo.of (HT1.out _) ?_); exact fun _ _ => rfl)
              | ((with_reducible refine CallTo.of (HT2.out _) ?_); exact fun _ _ => rfl))
          case tail =>
          simp only [FactsTo, List.take, Region.binds, mode_text, mode_gc, if_true, true_and, Bool.false_eq_true, if_false, List.drop, StepsU, StepsG, putsAll, FactsAt, Fs, val, List.getD_cons_zero, List.getD_cons_succ, List.getD_nil, SF.is, SF.rd, SF.any, SF.box, Option.getD_some, Option.getD_none, Act.put, List.setIfInBounds_toArray, List.set_cons_zero, List.set_cons_succ] at hf_w9 ⊢
          obtain ⟨hc_w9, hfz_w9⟩ := bcell hx_w9
          clear hf_w9
          have z1 : w7.heap.size + 1 < w9.heap.size := by have := hx_w9.size; (try simp at this); omega
          have z2 : w7.heap.size + 1 + 1 < w9.heap.size := by have := hx_w9.size; (try simp at this); omega
          have hE9 : Ext wr w9 := by ((repeat' (first | with_reducible exact Ext.refl _ | with_reducible assumption | with_reducible exact Ext.one _ | with_reducible refine Ext.alloc ?_ _ | with_reducible refine Ext.setCell ?_ ?_ _ | with_reducible refine Ext.drew ?_ | ((with_reducible apply Ext.after'); (with_reducible assumption)))) <;> (try simp) <;> omega)
          obtain ⟨e0, e1, e2, e3, e4⟩ := (hbu.ext hE9).at2
          obtain ⟨f0, f1, f2, f3, f4⟩ := (hbv.ext hE9).at2
          go_upto_region 24 with fail
          obtain ⟨W3, hW3⟩ : ∃ W3, (((w9.setCell ⟨w7.heap.size + 1, 0, none⟩ (.int .i64 u'.1)).setCell ⟨w7.heap.size + 1, 1, none⟩ (.int .i64 u'.2)).setCell ⟨w7.heap.size + 1 + 1, 0, none⟩ (.int .i64 v'.1)).setCell ⟨w7.heap.size + 1 + 1, 1, none⟩ (.int .i64 v'.2) = W3 := ⟨_, rfl⟩
          rw [hW3]
          have hx3' : Ext W1 W3 := by rw [← hW3]; exact ((((hx.trans hE9).setCell (by have := HSZ.out; simp; omega) _).setCell (by have := HSZ.out; simp; omega) _).setCell (by have := HSZ.out; simp; omega) _).setCell (by have := HSZ.out; simp; omega) _
          have hbu3 : Bx W3 (w7.heap.size + 1) 24 #[.int .i64 u'.1, .int .i64 u'.2] := by rw [← hW3]; exact (((hbu.ext hE9).set2 _ _).other (by simp) _).other (by simp) _
          have hbv3 : Bx W3 (w7.heap.size + 1 + 1) 24 #[.int .i64 v'.1, .int .i64 v'.2] := by rw [← hW3]; exact (((hbv.ext hE9).other (by simp) _).other (by simp) _).set2 _ _
          clear e0 e1 e2 e3 e4 f0 f1 f2 f3 f4 hW3 hc8 hf8 hc_w9 hfz_w9 hE9 y0 y1 y2 y3 y4 a0 a1 a2 a3 a4 b0 b1 b2 b3 b4 hw0 hw1 hs1 hl1 hl2 hbw hbg1 hbg2 q0 q1 q2 q3 z1 z2
          obtain ⟨y0, y1, y2, y3, y4⟩ := (hb9.ext hx3').at2
          obtain ⟨a0, a1, a2, a3, a4⟩ := hbu3.at2
          obtain ⟨b0, b1, b2, b3, b4⟩ := hbv3.at2
          have hrow2B := hrow2A.ext hx3'
          have hbg2 := hrow2B.1
          have hl1 := hrow2B.at (cells2_get0 hj2)
          have hl2 := hrow2B.at' (cells2_get1 hj2)
          simp only [List.getElem_map] at hl1 hl2
          cases q
          · go_wp2
            apply wp_region_ext 9 [.is _, .is _, .is _, .is _, .is _, .is _, .is _, .is _, .is _] (by kernel_rfl) (by kernel_rfl) (by kernel_rfl) (fun V => ?steps) (fun V w10 hx_w10 hf_w10 => ?tail)
            case steps =>
              simp only [List.take, Region.binds, mode_text, mode_gc, if_true, true_and, Bool.false_eq_true, if_false, List.drop, StepsU, StepsG, putsAll, FactsAt, Fs, val, List.getD_cons_zero, List.getD_cons_succ, List.getD_nil, SF.is, SF.rd, SF.any, SF.box, Option.getD_some, Option.getD_none, Act.put, List.setIfInBounds_toArray, List.set_cons_zero, List.set_cons_succ]
              refine ⟨?_, ?_, ?_, ?_, ?_, ?_, ?_, ?_, ?_, trivial⟩ <;> (intro w2 hx hf; obtain ⟨hc, hfz⟩ := bcell hx; go_simp; (try simp only [wrap_eq]); first
                | exact Post.mk rfl (Ext.refl _)
                | rfl
                | (refine Post.mk ?_ (Ext.refl _); (simp <;> omega); done)
                | exact Post.mk ⟨_, _, rfl, Nat.le_refl _, Rd.new _ _ _ _ _ rfl⟩ ((Ext.refl _).alloc _)
                | (refine Post.mk ⟨_, rfl, ?_, Bx.new _ _ _⟩ ((Ext.refl _).alloc _); have := hx.size; (try simp at this); (try simp); omega)
                | ((with_reducible refine CallTo.of (HTS.out _) ?_); exact fun _ _ => rfl))
            case tail =>
            simp only [FactsTo, List.take, Region.binds, mode_text, mode_gc, if_true, true_and, Bool.false_eq_true, if_false, List.drop, StepsU, StepsG, putsAll, FactsAt, Fs, val, List.getD_cons_zero, List.getD_cons_succ, List.getD_nil, SF.is, SF.rd, SF.any, SF.box, Option.getD_some, Option.getD_none, Act.put, List.setIfInBounds_toArray, List.set_cons_zero, List.set_cons_succ] at hf_w10 ⊢
            obtain ⟨hc_w10, hfz_w10⟩ := bcell hx_w10
            clear hf_w10
            go_wp2
            go_roundw
            case rel => exact ⟨j + 1, u', v', by omega, by go_num, hbu3.ext hx_w10, hbv3.ext hx_w10, hnext, hx3'.trans hx_w10⟩
            case measure => simp [intOf]; omega
          · have HNa := Lib.hid (HNr.out rfl)
            go_wp2
            apply wp_region_ext 9 [.is _, .is _, .is _, .is _, .is _, .is _, .is _, .is _, .is _] (by kernel_rfl) (by kernel_rfl) (by kernel_rfl) (fun V => ?steps) (fun V w10 hx_w10 hf_w10 => ?tail)
            case steps =>
              simp only [List.take, Region.binds, mode_text, mode_gc, if_true, true_and, Bool.false_eq_true, if_false, List.drop, StepsU, StepsG, putsAll, FactsAt, Fs, val, List.getD_cons_zero, List.getD_cons_succ, List.getD_nil, SF.is, SF.rd, SF.any, SF.box, Option.getD_some, Option.getD_none, Act.put, List.setIfInBounds_toArray, List.set_cons_zero, List.set_cons_succ]
              refine ⟨?_, ?_, ?_, ?_, ?_, ?_, ?_, ?_, ?_, trivial⟩ <;> (intro w2 hx hf; obtain ⟨hc, hfz⟩ := bcell hx; go_simp; (try simp only [wrap_eq]); first
                | exact Post.mk rfl (Ext.refl _)
                | rfl
                | (refine Post.mk ?_ (Ext.refl _); (simp <;> omega); done)
                | exact Post.mk ⟨_, _, rfl, Nat.le_refl _, Rd.new _ _ _ _ _ rfl⟩ ((Ext.refl _).alloc _)
                | (refine Post.mk ⟨_, rfl, ?_, Bx.new _ _ _⟩ ((Ext.refl _).alloc _); have := hx.size; (try simp at this); (try simp); omega)
                | ((with_reducible refine CallTo.of (HTS.out _) ?_); exact fun _ _ => rfl))
            case tail =>
            simp only [FactsTo, List.take, Region.binds, mode_text, mode_gc, if_true, true_and, Bool.false_eq_true, if_false, List.drop, StepsU, StepsG, putsAll, FactsAt, Fs, val, List.getD_cons_zero, List.getD_cons_succ, List.getD_nil, SF.is, SF.rd, SF.any, SF.box, Option.getD_some, Option.getD_none, Act.put, List.setIfInBounds_toArray, List.set_cons_zero, List.set_cons_succ] at hf_w10 ⊢
            obtain ⟨hc_w10, hfz_w10⟩ := bcell hx_w10
            clear hf_w10
            have p1 : w7.heap.size < w10.heap.size := by have := hx_w10.size; (try simp at this); omega
            have p2 : g2 < w10.heap.size := by have := hx_w10.size; (try simp at this); omega
            go_wp2_with (first | (go_at_call 35; (with_reducible refine (HNa.out _).mono ?_); rintro e w11 ⟨rfl, hx11⟩; obtain ⟨hc11, hf11⟩ := bcell hx11))
            go_roundw
            case rel => exact ⟨j + 1, u', v', by omega, by go_num, (hbu3.ext hx_w10).ext hx11, (hbv3.ext hx_w10).ext hx11, hnext, (hx3'.trans hx_w10).trans hx11⟩
            case measure => simp [intOf]; omega
        · go_wp2
          go_ret
          exact ⟨rfl, hxw.trans hx⟩
theorem statorRest_any (s : Int) (cs : List T2) (a : Option Addr) (n c : Nat) (w : World) (hs : Sts w) (hl : cs.length = n) (hr : Rd w 2 a n (cells2 cs)) : Calls Tryd.prog 6 #[.int .i64 s, .slice a n c] w fun e w' => e = .returned (.bool true) ∧ Ext w w' := by
  by_cases h20 : 20 < n
  · exact statorRest_far s cs a n c w hs h20
  · by_cases h : wantsE s n cs = 0
    · exact statorRest_yes s cs a n c w hs hl hr (by omega) h
    · exact statorRest_no s cs a n c w hs hl hr (by omega) h
end Go.Proofs.YtdbglpaejmhbjaaDoor
