/- Texts of this claim, one behind the other: lemmas for the statement. -/
import Derived.Test.YtjhcfpdgldpicaaGreatDoorM12
import Derived.Test.YtjhcfpdgldpicaaGreatDoorM11
import Derived.Test.YtjhcfpdgldpicaaGreatDoorT0
set_option linter.unusedSimpArgs false
set_option linter.unusedVariables false
namespace Go.Proofs.YtjhcfpdgldpicaaGreatDoor
open Go Go.RowKit Go.Proofs Go.Shelf Go.Lib
def cln (w : List UInt8) : Prop := w ≠ [] ∧ ∀ k : Nat, w[k]? ≠ some 32 ∧ w[k]? ≠ some 9 ∧ w[k]? ≠ some 10
theorem cln_num {w : List UInt8} {D : Nat} (h : numK w D = true) : cln w :=
 ⟨fun e => (num_no h).1 (by rw [e]; rfl), fun k => ⟨numK_byte h (by decide) k, numK_byte h (by decide) k, numK_byte h (by decide) k⟩⟩
theorem okB_cln {j : Nat} {c : UInt8} (h : okB j c = true) : c ≠ 32 ∧ c ≠ 9 ∧ c ≠ 10 := by
 have h1 := of_decide_eq_true h
 refine ⟨fun e => ?_, fun e => ?_, fun e => ?_⟩ <;> (subst e; revert h1; simp)
theorem cln_name {nm : List UInt8} (h : isNameB (bs nm) = true) : cln nm := by
 unfold isNameB at h
 simp only [Bool.and_eq_true, decide_eq_true_eq] at h
 obtain ⟨⟨h1, h2⟩, h3⟩ := h
 have hz : (bs nm).size = nm.length := rfl
 refine ⟨fun e => by rw [e] at hz h2; rw [hz] at h2; simp at h2, fun k => ?_⟩
 cases hq : nm[k]? with
 | none => simp
 | some b =>
  have hk := (List.getElem?_eq_some_iff.1 hq).1
  unfold namB at h1
  have h4 := List.all_eq_true.1 h1 k (List.mem_range.2 hk)
  rw [show (bs nm).data.toList = nm from rfl, List.getD_eq_getElem?_getD, hq] at h4
  obtain ⟨a1, a2, a3⟩ := okB_cln h4
  simpa using ⟨a1, a2, a3⟩
theorem cln_of {w : List UInt8} (h0 : w ≠ []) (h : w.all (fun b => b != 32 && b != 9 && b != 10) = true) : cln w := by
 refine ⟨h0, fun k => ?_⟩
 cases hq : w[k]? with
 | none => simp
 | some b =>
  have h1 := List.all_eq_true.1 h b (List.mem_of_getElem? hq)
  simp only [Bool.and_eq_true, bne_iff_ne] at h1
  simpa using ⟨h1.1.1, h1.1.2, h1.2⟩
theorem cln_track : cln wTrack := cln_of (by decide) (by decide)
theorem cln_piece : cln wPiece := cln_of (by decide) (by decide)
theorem cln_leave : cln wLeave := cln_of (by decide) (by decide)
theorem blk_no {b : UInt8} (h1 : b ≠ 32) (h2 : b ≠ 9) : blk b = false := by unfold blk; simp [h1, h2]
def wT (l : List UInt8) (a : Nat) : List (List UInt8) := (wdsAt l a).map Wd.t
theorem wT_w (pre w r : List UInt8) (hc : cln w) (hr : r = [] ∨ ∃ r', r = 32 :: r') : wT (pre ++ w ++ r) pre.length = w :: wT (pre ++ w ++ r) (pre ++ w).length := by
 have hp := List.length_pos_iff.2 hc.1
 have hl : (pre ++ w ++ r).length = pre.length + w.length + r.length := by simp [Nat.add_assoc]
 have hin : ∀ k, pre.length ≤ k → k < pre.length + w.length → (pre ++ w ++ r).getD k default = w.getD (k - pre.length) default := fun k h1 h2 => by
  rw [List.getD_eq_getElem?_getD, List.getD_eq_getElem?_getD, List.append_assoc, List.getElem?_append_right h1, List.getElem?_append_left (by omega)]
 obtain ⟨e1, e2, e3⟩ := nxt_ends (l := pre ++ w ++ r) (a := pre.length) (i := pre.length + w.length) (by omega) (by omega) (by omega) (fun k h1 h2 => by
  rw [hin k h1 h2]
  have h3 := hc.2 (k - pre.length)
  rw [List.getElem?_eq_getElem (by omega)] at h3
  rw [List.getD_eq_getElem?_getD, List.getElem?_eq_getElem (by omega)]
  exact blk_no (fun e => h3.1 (congrArg some e)) (fun e => h3.2.1 (congrArg some e)))
  (by
   rcases hr with rfl | ⟨r', rfl⟩
   ·left; simp
   ·right
    rw [List.getD_eq_getElem?_getD, List.getElem?_append_right (by simp), List.length_append, Nat.sub_self]
    rfl)
 have e4 : nxtW (pre ++ w ++ r) pre.length = w := by
  rw [e1, show pre.length + w.length - pre.length = w.length by omega, List.append_assoc, List.drop_left' rfl, List.take_left' rfl]
 unfold wT
 rw [wdsAt_cons (by omega) (by rw [e4]; exact hc.1), e2, e4, List.map_cons, List.length_append]
theorem wT_sp (pre r : List UInt8) : wT (pre ++ 32 :: r) pre.length = wT (pre ++ 32 :: r) (pre ++ [32]).length := by
 unfold wT
 rw [List.length_append, List.length_singleton, wds_skip (by simp) (by rw [List.getD_eq_getElem?_getD, List.getElem?_append_right (Nat.le_refl _), Nat.sub_self]; rfl)]
theorem wT_next (pre w r : List UInt8) (hc : cln w) (hr : r = [] ∨ ∃ r', r = 32 :: r') : wT (pre ++ [32] ++ w ++ r) pre.length = w :: wT (pre ++ [32] ++ w ++ r) (pre ++ [32] ++ w).length := by
 rw [← wT_w (pre ++ [32]) w r hc hr]
 have h := wT_sp pre (w ++ r)
 have e : pre ++ [32] ++ w ++ r = pre ++ 32 :: (w ++ r) := by simp
 rw [e]; exact h
theorem wT_end (l : List UInt8) : wT l l.length = [] := by unfold wT; rw [wdsAt_end]; rfl
theorem wT_head (nm : List UInt8) (h : cln nm) : wT (hdT nm) 0 = [wTrack, nm] := by
 have h1 := wT_w [] wTrack ([32] ++ nm) cln_track (.inr ⟨nm, rfl⟩)
 have h2 := wT_next wTrack nm [] h (.inl rfl)
 have e : hdT nm = wTrack ++ [32] ++ nm ++ [] := by unfold hdT; simp
 have e2 : [] ++ wTrack ++ ([32] ++ nm) = wTrack ++ [32] ++ nm ++ [] := by simp
 have h3 := wT_end (wTrack ++ [32] ++ nm ++ [])
 rw [e2] at h1
 rw [e]
 rw [show ([] : List UInt8).length = 0 from rfl, show ([] ++ wTrack : List UInt8) = wTrack from rfl] at h1
 rw [h1, h2]
 rw [List.append_nil] at h3 ⊢
 rw [h3]
theorem wT_piece (p : Piece) (h1 : cln (itoa p.len)) (h2 : cln (itoa p.grad)) (h3 : cln (itoa p.lim)) : wT (pcT p) 0 = [wPiece, itoa p.len, itoa p.grad, itoa p.lim] ++ (if p.leave then [wLeave] else []) := by
 obtain ⟨q, hq⟩ : ∃ q, q = (if p.leave then [32] ++ wLeave else []) := ⟨_, rfl⟩
 have hr : q = [] ∨ ∃ r', q = 32 :: r' := by
  rw [hq]; split
  ·exact .inr ⟨wLeave, rfl⟩
  ·exact .inl rfl
 have e : pcT p = wPiece ++ [32] ++ itoa p.len ++ [32] ++ itoa p.grad ++ [32] ++ itoa p.lim ++ q := by unfold pcT; rw [hq]
 generalize itoa p.len = a at *
 generalize itoa p.grad = b at *
 generalize itoa p.lim = c at *
 have k1 := wT_w [] wPiece ([32] ++ a ++ [32] ++ b ++ [32] ++ c ++ q) cln_piece (.inr ⟨a ++ [32] ++ b ++ [32] ++ c ++ q, by simp⟩)
 have k2 := wT_next wPiece a ([32] ++ b ++ [32] ++ c ++ q) h1 (.inr ⟨b ++ [32] ++ c ++ q, by simp⟩)
 have k3 := wT_next (wPiece ++ [32] ++ a) b ([32] ++ c ++ q) h2 (.inr ⟨c ++ q, by simp⟩)
 have k4 := wT_next (wPiece ++ [32] ++ a ++ [32] ++ b) c q h3 hr
 have k5 := wT_end (pcT p)
 simp only [← List.append_assoc, List.nil_append] at k1 k2 k3 k4
 rw [← e] at k1 k2 k3 k4
 rw [show ([] : List UInt8).length = 0 from rfl] at k1
 rw [k1, k2, k3, k4]
 by_cases hl : p.leave = true
 ·rw [if_pos hl] at hq ⊢
  have k6 := wT_next (wPiece ++ [32] ++ a ++ [32] ++ b ++ [32] ++ c) wLeave [] cln_leave (.inl rfl)
  have e3 : pcT p = wPiece ++ [32] ++ a ++ [32] ++ b ++ [32] ++ c ++ [32] ++ wLeave ++ [] := by rw [e, hq]; simp
  rw [← e3] at k6
  rw [k6]
  rw [List.append_nil] at e3
  rw [← e3, k5]
  rfl
 ·rw [if_neg hl] at hq ⊢
  rw [hq, List.append_nil] at e
  rw [← e, k5]
  rfl
theorem nth_t (ws : List Wd) (k : Nat) : (nth ws k).t = (ws.map Wd.t).getD k [] := by
 unfold nth
 rw [List.getD_eq_getElem?_getD, List.getD_eq_getElem?_getD, List.getElem?_map]
 cases ws[k]? <;> rfl
theorem len_t (ws : List Wd) : ws.length = (ws.map Wd.t).length := (List.length_map _).symm
theorem lerH_good {ws : List Wd} {nm : List UInt8} (h : ws.map Wd.t = [wTrack, nm]) (hn : isNameB (bs nm) = true) : lerH ws = ⟨nm, [], false, 0, 0⟩ := by
 have hl : ws.length = 2 := by rw [len_t, h]; rfl
 have h0 : (nth ws 0).t = wTrack := by rw [nth_t, h]; rfl
 have h1 : (nth ws 1).t = nm := by rw [nth_t, h]; rfl
 unfold lerH
 rw [if_neg (by simpa using h0), if_neg (by omega), h1, if_neg (by rw [hn]; decide), if_neg (by omega)]
theorem lerP_good {ws : List Wd} {a b c : List UInt8} {lv : Bool} (h : ws.map Wd.t = [wPiece, a, b, c] ++ (if lv then [wLeave] else [])) (ha : okW a false = true) (hb : okW b true = true) (hc : okW c false = true) : lerP ws = ⟨[], [numN a, numN b, numN c], lv, 0, 0⟩ := by
 have h0 : (nth ws 0).t = wPiece := by rw [nth_t, h]; rfl
 have h1 : (nth ws 1).t = a := by rw [nth_t, h]; rfl
 have h2 : (nth ws 2).t = b := by rw [nth_t, h]; rfl
 have h3 : (nth ws 3).t = c := by rw [nth_t, h]; rfl
 have hl : ws.length = 4 + (if lv then 1 else 0) := by rw [len_t, h]; cases lv <;> rfl
 have hl4 : 4 ≤ ws.length := by omega
 have n1 : chkN ws 1 = none := by unfold chkN; rw [if_neg (by omega), h1, if_pos (by exact ha)]
 have n2 : chkN ws 2 = none := by unfold chkN; rw [if_neg (by omega), h2, if_pos (by exact hb)]
 have n3 : chkN ws 3 = none := by unfold chkN; rw [if_neg (by omega), h3, if_pos (by exact hc)]
 rw [lerP_end h0 (fun k k1 k2 => by
  have : k = 1 ∨ k = 2 ∨ k = 3 := by omega
  rcases this with rfl | rfl | rfl
  ·exact n1
  ·exact n2
  ·exact n3)]
 unfold lerT
 rw [h1, h2, h3]
 cases lv with
 | true =>
  have h4 : (nth ws 4).t = wLeave := by rw [nth_t, h]; rfl
  simp only [if_true] at hl
  rw [if_neg (fun hh => hh.2 h4), if_neg (by omega), decide_eq_true (by omega : 4 < ws.length)]
 | false =>
  simp only [if_neg (by decide : ¬ false = true)] at hl
  rw [if_neg (by omega), if_neg (by omega), decide_eq_false (by omega : ¬ 4 < ws.length)]
theorem itoa_okW {n : Int} {below : Bool} (h : n.natAbs < 10 ^ 11) (hb : below = true ∨ 0 ≤ n) : okW (itoa n) below = true ∧ numN (itoa n) = n ∧ cln (itoa n) := by
 obtain ⟨h1, h2⟩ := num_back (v := n) (D := 11) (by decide) (dec_len_le 11 _ (by decide) h)
 refine ⟨?_, h2, cln_num h1⟩
 unfold okW
 rw [h1, h2]
 rcases hb with rfl | hb
 ·rfl
 ·rw [decide_eq_true hb, Bool.or_true]; rfl
theorem piece_good {p : Piece} (h : pieceB p = true) : pcL (lerP (wdsAt (pcT p) 0)) = p ∧ (lerP (wdsAt (pcT p) 0)).e = 0 ∧ wdsAt (pcT p) 0 ≠ [] := by
 obtain ⟨b1, b2, b3⟩ := pieceB_bd h
 obtain ⟨c1, c2, c3⟩ := itoa_okW (n := p.len) (below := false) (by omega) (.inr (by omega))
 obtain ⟨d1, d2, d3⟩ := itoa_okW (n := p.grad) (below := true) (by omega) (.inl rfl)
 obtain ⟨e1, e2, e3⟩ := itoa_okW (n := p.lim) (below := false) (by omega) (.inr (by omega))
 have hw := wT_piece p c3 d3 e3
 unfold wT at hw
 rw [lerP_good hw c1 d1 e1, c2, d2, e2]
 exact ⟨rfl, rfl, fun e => by rw [e] at hw; cases hw⟩
theorem head_good {nm : List UInt8} (h : isNameB (bs nm) = true) : lerH (wdsAt (hdT nm) 0) = ⟨nm, [], false, 0, 0⟩ ∧ wdsAt (hdT nm) 0 ≠ [] := by
 have hw := wT_head nm (cln_name h)
 unfold wT at hw
 exact ⟨lerH_good hw h, fun e => by rw [e] at hw; cases hw⟩
def noE (l : List UInt8) : Prop := ∀ b ∈ l, b ≠ 10
theorem noE_app {a b : List UInt8} (ha : noE a) (hb : noE b) : noE (a ++ b) := fun x hx => by
 rcases List.mem_append.1 hx with h | h
 ·exact ha x h
 ·exact hb x h
theorem noE_cln {w : List UInt8} (h : cln w) : noE w := fun b hb e => by
 obtain ⟨k, hk, rfl⟩ := List.getElem_of_mem hb
 exact (h.2 k).2.2 (by rw [List.getElem?_eq_getElem hk, e])
theorem noE_sp : noE [32] := fun b hb => by rw [List.mem_singleton.1 hb]; decide
theorem spl_line {a : List UInt8} (h : noE a) (r : List UInt8) : spl (a ++ [10] ++ r) = a :: spl r := by
 rw [spl_at (a ++ [10] ++ r) a.length (by simp) (by rw [List.getD_eq_getElem?_getD, List.append_assoc, List.getElem?_append_right (Nat.le_refl _), Nat.sub_self]; rfl) (fun k hk => by
  rw [List.getD_eq_getElem?_getD, List.append_assoc, List.getElem?_append_left hk, List.getElem?_eq_getElem hk]
  exact h _ (List.getElem_mem hk))]
 congr 1
 ·rw [List.append_assoc, List.take_left' rfl]
 ·rw [List.drop_left' (by simp)]
theorem spl_lines : ∀ (L : List (List UInt8)), (∀ a ∈ L, noE a) → spl ((L.map fun a => a ++ [10]).flatten) = L ++ [[]]
 | [], _ => rfl
 | a :: L, h => by
  have ih := spl_lines L (fun x hx => h x (List.mem_cons_of_mem _ hx))
  rw [List.map_cons, List.flatten_cons, spl_line (h a (List.mem_cons_self ..)), ih]
  rfl
theorem strip_end (L : List (List UInt8)) : strip (L ++ [[]]) = L := by
 unfold strip
 rw [if_pos (by simp), List.dropLast_concat]
theorem read_back {nm : List UInt8} {ps : List Piece} (h : (chk (bs nm) ps).2 = 0) : prgP (trT nm ps) = ⟨nm, ps, 0, 0, 0⟩ := by
 obtain ⟨a1, a2, a3, a4⟩ := chk_zero h
 have hcn := cln_name a1
 have hnl : nm.length ≤ 12 := by
  unfold isNameB at a1
  simp only [Bool.and_eq_true, decide_eq_true_eq] at a1
  exact a1.2
 have hlen := trK_len (nm := nm) (ps := ps) (k := ps.length) (by omega) a4 (by omega)
 rw [trK_all] at hlen
 have hcl : ∀ p ∈ ps, cln (itoa p.len) ∧ cln (itoa p.grad) ∧ cln (itoa p.lim) := fun p hp => by
  obtain ⟨b1, b2, b3⟩ := pieceB_bd (a4 p hp)
  exact ⟨(itoa_okW (n := p.len) (below := false) (by omega) (.inr (by omega))).2.2, (itoa_okW (n := p.grad) (below := true) (by omega) (.inl rfl)).2.2, (itoa_okW (n := p.lim) (below := false) (by omega) (.inr (by omega))).2.2⟩
 have hno : ∀ a ∈ hdT nm :: ps.map pcT, noE a := fun a ha => by
  rcases List.mem_cons.1 ha with rfl | ha
  ·unfold hdT; exact noE_app (noE_app (noE_cln cln_track) noE_sp) (noE_cln hcn)
  ·obtain ⟨p, hp, rfl⟩ := List.mem_map.1 ha
   obtain ⟨b1, b2, b3⟩ := hcl p hp
   unfold pcT
   refine noE_app (noE_app (noE_app (noE_app (noE_app (noE_app (noE_app (noE_cln cln_piece) noE_sp) (noE_cln b1)) noE_sp) (noE_cln b2)) noE_sp) (noE_cln b3)) ?_
   split
   ·exact noE_app noE_sp (noE_cln cln_leave)
   ·exact fun b hb => by cases hb
 have hcs : strip (spl (trT nm ps)) = hdT nm :: ps.map pcT := by
  have e : trT nm ps = ((hdT nm :: ps.map pcT).map fun a => a ++ [10]).flatten := by
   unfold trT
   rw [List.map_cons, List.flatten_cons, List.map_map]
   rfl
  rw [e, spl_lines _ hno, strip_end]
 unfold prgP
 rw [if_neg (by omega), lines_eq, hcs]
 obtain ⟨R, hR⟩ : ∃ R, R = goP 0 ⟨[], [], []⟩ (hdT nm :: ps.map pcT) := ⟨_, rfl⟩
 rw [← hR]
 obtain ⟨cs, hcs2⟩ : ∃ cs, cs = hdT nm :: ps.map pcT := ⟨_, rfl⟩
 rw [← hcs2] at hR
 have hcl2 : cs.length = ps.length + 1 := by rw [hcs2]; simp
 have hI0 : RInv cs 0 [] 0 [] [] R := ⟨by omega, hR.symm, by omega, by simp, rfl, by simp, by omega, fun _ => rfl⟩
 obtain ⟨g1, g2⟩ := head_good a1
 have hg0 : cs.getD (0 : Int).toNat default = hdT nm := by rw [hcs2]; rfl
 have e0 : ∀ ws, lerB 0 ws = lerH ws := fun ws => if_pos rfl
 have e1 : ∀ ws, lerB 1 ws = lerP ws := fun ws => if_neg (by decide)
 have hI1 := hI0.head (by omega) (by rw [hg0]; unfold hdT; simp [wTrack]; omega) (by rw [hg0]; exact g2) rfl (by rw [hg0, e0, g1])
 rw [hg0, e0, g1] at hI1
 have key : ∀ k : Nat, k ≤ ps.length → ∃ az, RInv cs (1 + k) nm 1 (ps.take k) az R := by
  intro k
  induction k with
  | zero => intro _; exact ⟨[], hI1⟩
  | succ k ih =>
   intro hk
   obtain ⟨az, hI⟩ := ih (by omega)
   have hgk : cs.getD (1 + (k : Int)).toNat default = pcT ps[k] := by
    rw [hcs2, show (1 + (k : Int)).toNat = k + 1 by omega, List.getD_eq_getElem?_getD, List.getElem?_cons_succ, List.getElem?_map, List.getElem?_eq_getElem (by omega)]
    rfl
   obtain ⟨f1, f2, f3⟩ := piece_good (a4 ps[k] (List.getElem_mem _))
   have hI2 := hI.piece (by omega) (by rw [hgk]; exact f3) (by decide) (by rw [hgk, e1]; exact f2)
   rw [hgk, e1, f1] at hI2
   refine ⟨az ++ [1 + (k : Int) + 1], ?_⟩
   rw [List.take_add_one, List.getElem?_eq_getElem (by omega), show (1 + ((k + 1 : Nat) : Int)) = 1 + (k : Int) + 1 by omega]
   exact hI2
 obtain ⟨az, hI⟩ := key ps.length (Nat.le_refl _)
 rw [List.take_length] at hI
 exact hI.fin1 (by omega) (by decide) h
theorem z37_hcf10 : ∀ args w, (callFunc 10 args).run Tryz.prog w = .ok (.enter 10 args) w := fun _ _ => by kernel_rfl
theorem z37_hcf11 : ∀ args w, (callFunc 11 args).run Tryz.prog w = .ok (.enter 11 args) w := fun _ _ => by kernel_rfl
theorem z37_hcf12 : ∀ args w, (callFunc 12 args).run Tryz.prog w = .ok (.enter 12 args) w := fun _ _ => by kernel_rfl
theorem z37_hcf13 : ∀ args w, (callFunc 13 args).run Tryz.prog w = .ok (.enter 13 args) w := fun _ _ => by kernel_rfl
theorem z37_hcf14 : ∀ args w, (callFunc 14 args).run Tryz.prog w = .ok (.enter 14 args) w := fun _ _ => by kernel_rfl
theorem z37_hcf15 : ∀ args w, (callFunc 15 args).run Tryz.prog w = .ok (.enter 15 args) w := fun _ _ => by kernel_rfl
theorem z37_hcf7 : ∀ args w, (callFunc 7 args).run Tryz.prog w = .ok (.enter 7 args) w := fun _ _ => by kernel_rfl
theorem z37_hcf8 : ∀ args w, (callFunc 8 args).run Tryz.prog w = .ok (.enter 8 args) w := fun _ _ => by kernel_rfl
theorem z37_hcf9 : ∀ args w, (callFunc 9 args).run Tryz.prog w = .ok (.enter 9 args) w := fun _ _ => by kernel_rfl
theorem z37_gq28 : Tryz.prog.eqGuardType Tryz.prog.depth 28 = false := by kernel_rfl
theorem z37_sq28 {a0 b0 : Int} {a1 b1 : Int} : EqV Tryz.prog 2 28 (.agg #[.int .i64 a0, .int .i64 a1]) (.agg #[.int .i64 b0, .int .i64 b1]) (decide (a0 = b0) && (decide (a1 = b1) && true)) := (eqs_struct [(3, 0), (3, 1)] (by kernel_rfl) (by kernel_rfl) (by kernel_rfl) (by kernel_rfl) (.cons (fun _ => by kernel_rfl) (fun _ => by kernel_rfl) (eqv_int (k := .i64) (k' := .i64) (by kernel_rfl) a0 b0) (.cons (fun _ => by kernel_rfl) (fun _ => by kernel_rfl) (eqv_int (k := .i64) (k' := .i64) (by kernel_rfl) a1 b1) .nil)))
theorem z37_ty24 : TyIs Tryz.prog 24 true 2 := ⟨by kernel_rfl, by kernel_rfl⟩
theorem z37_ty28 : TyIs Tryz.prog 28 true 2 := ⟨by kernel_rfl, by kernel_rfl⟩
theorem samB_self (na : ByteArray) (ps : List Piece) : samB na ps na ps = true := by unfold samB; simp
theorem finP_len (i : Int) (st : PSt) : (finP i st).ps.length ≤ 12 := by
 unfold finP
 split
 ·show ([] : List Piece).length ≤ 12; decide
 ·split
  ·rename_i h; exact (chk_zero h).2.2.1
  ·show ([] : List Piece).length ≤ 12; decide
theorem goP_len : ∀ (ls : List (List UInt8)) (i : Int) (st : PSt), (goP i st ls).ps.length ≤ 12
 | [], i, st => finP_len i st
 | l :: ls, i, st => by
  simp only [goP]
  split
  ·exact goP_len ls _ _
  ·split
   ·exact goP_len ls _ _
   ·show ([] : List Piece).length ≤ 12; decide
theorem prg_len (tx : List UInt8) : (prgP tx).ps.length ≤ 12 := by
 unfold prgP
 split
 ·show ([] : List Piece).length ≤ 12; decide
 ·exact goP_len _ _ _
section
variable (es er : Value) (hes : isE es) (her : isE er)
include hes her
set_option maxRecDepth 100000 in
set_option maxHeartbeats 4000000 in
theorem brakeTexts_l (nm : List UInt8) (ps : List Piece) (tx : List UInt8) : FnOkG Tryz.prog (gX es er) 3 [trA (bs nm) ps, .v (.string (bs tx))] (fun q => q = bA true) := by
 have hz : (bs nm).size = nm.length := rfl
 have hzt : (bs tx).size = tx.length := rfl
 have hC := rCopy_ok (bs nm) ps
 obtain ⟨r, hr⟩ : ∃ r, r = prgP tx := ⟨_, rfl⟩
 have hrl : r.ps.length ≤ 12 := by rw [hr]; exact prg_len tx
 have hA : tx.length ≤ 1000000 → FnOkG Tryz.prog (gX es er) 9 [.v (.string (bs tx))] (fun q => q = .tuple [trA (bs r.nm) r.ps, .agg [iA r.ml, iA r.mc], iA r.e]) := fun h => by rw [hr]; exact kParse_ok es er hes her tx h
 have hB : tx.length ≤ 1000000 → FnOk Tryz.prog 10 [.v (.string (bs tx))] (fun q => q = .tuple [trA (bs r.nm) r.ps, .agg [iA r.ml, iA r.mc], iA r.e]) := fun h => by rw [hr]; exact rParse_ok tx h
 have hX := rSame_ok (bs r.nm) r.ps (bs r.nm) r.ps (by omega) (by omega)
 rw [samB_self] at hX
 clear hr
 obtain ⟨d, hd⟩ : ∃ d, d = (chk (bs nm) ps).2 := ⟨_, rfl⟩
 obtain ⟨t, ht⟩ : ∃ t, t = if d = 0 then bs (trT nm ps) else ⟨#[]⟩ := ⟨_, rfl⟩
 have hK : nm.length ≤ 30 → ps.length ≤ 14 → FnOkG Tryz.prog (gX es er) 12 [trA (bs nm) ps] (fun q => q = .tuple [.v (.string t), iA d]) := fun h1 h2 => by
  have := kPrint_ok es er nm ps (by omega) (by omega)
  rw [← hd, ← ht] at this
  exact this
 have hT : nm.length ≤ 30 → ps.length ≤ 14 → FnOk Tryz.prog 14 [trA (bs nm) ps] (fun q => q = iA d) := fun h1 h2 => by rw [hd]; exact rTrackErr_ok (bs nm) ps (by omega) (by omega)
 have h9 : ¬ d = 0 → t = ⟨#[]⟩ := fun h => ht.trans (if_neg h)
 have h0 : d = 0 → FnOkG Tryz.prog (gX es er) 9 [.v (.string t)] (fun q => q = .tuple [trA (bs nm) ps, .agg [iA 0, iA 0], iA 0]) ∧ FnOk Tryz.prog 15 [trA (bs nm) ps] (fun q => q = .v (.string t)) ∧ FnOk Tryz.prog 11 [trA (bs nm) ps, trA (bs nm) ps] (fun q => q = bA true) := fun h => by
  rw [if_pos h] at ht
  subst ht
  rw [hd] at h
  obtain ⟨c1, c2, c3, c4⟩ := chk_zero h
  have hnl : nm.length ≤ 12 := by
   unfold isNameB at c1
   simp only [Bool.and_eq_true, decide_eq_true_eq] at c1
   exact c1.2
  have hlen := trK_len (nm := nm) (ps := ps) (k := ps.length) (by omega) c4 (by omega)
  rw [trK_all] at hlen
  have h1 := kParse_ok es er hes her (trT nm ps) (by omega)
  rw [read_back h] at h1
  have h2 := rSame_ok (bs nm) ps (bs nm) ps (by omega) (by omega)
  rw [samB_self] at h2
  exact ⟨h1, rPrint_ok nm ps (by omega) c3 c4, h2⟩
 clear ht hd
 refine fnOkG_of (fn := Tryz.f3) (gX es er) 108 (by kernel_rfl) rfl (by kernel_rfl) (Nat.le_of_ble_eq_true rfl) ?_
 intro e_0 m_0 hA hm_0
 have s0_0 : evA e_0 (.tmp 0) = _ := hA 0 _ rfl
 have s1_0 : evA e_0 (.tmp 1) = _ := hA 1 _ rfl
 have ml_0 : m_0.length = 1 := by rw [hm_0]; rfl
 have mo0_0 : m_0[0]? = some (.glob (gX es er)) := by rw [hm_0]; rfl
 clear hA hm_0
 refine aw_seq <| at_ <| al_stm (st_box s0_0 rfl ml_0) trivial rfl (fun m_1 hm_1 => ?_)
 have mo1_1 := m_push hm_1 ml_0
 have mo0_1 := m_push_o hm_1 mo0_0
 have ml_1 := m_push_l hm_1 ml_0
 have ml_1 : _ = 2 := ml_1
 clear hm_1 mo0_0
 refine ar (ro_assign ev_c) rfl <| ae2 (u2 rfl s1_0) (up_m rfl up_h) ?_; clear s0_0 s1_0; intro e_2 s1_2 s2_2
 refine then_n <| aw_seq <| aw_seq <| at_ <| ar (ro_call evL_nil rfl (awake_ok) z37_hcf7) rfl <| ar (ro_not up_h) rfl <| ae3 (u2 rfl s1_2) (u2 rfl s2_2) up_h ?_; clear s1_2 s2_2; intro e_3 s1_3 s2_3 s18_3
 refine then_n <| aw_case s18_3 (fun hq_4 => ?_) (fun hq_4 => ?_)
 ·replace hq_4 := bt' hq_4; cases hq_4
 replace hq_4 := bf' hq_4
 refine aw_skip <| then_n <| aw_seq <| aw_seq <| at_ <| ar (ro_eq (ro_ld_ptr z37_ty24 rfl mo1_1 s2_3 (nle rfl)) (by simp only [pS, Value.cells, Nat.reduceAdd] <;> rfl)) rfl ?_
 refine ar (ro_call (evL_cons up_h evL_nil) rfl (short_ok (bs nm) ps) z37_hcf8) rfl <| ar (ro_not up_h) rfl <| ar (ro_move up_h) rfl <| al_case up_h (fun hb_6 hq_6 => ?_) (fun hb_6 hq_6 => ?_)
 ·replace hq_6 := bnt hq_6
  refine al_skip' ⟨_, rfl, .inl hb_6⟩ rfl ?_
  refine al_skip' ⟨_, rfl, .inl (up_m rfl hb_6)⟩ rfl ?_
  refine al_skip' ⟨_, rfl, .inl (u2 rfl hb_6)⟩ rfl ?_
  refine al_skip' ⟨_, rfl, .inl (up_m rfl (u2 rfl hb_6))⟩ rfl ?_
  refine al_skip' ⟨_, rfl, .inr up_h⟩ rfl ?_
  refine al_skip' ⟨_, rfl, .inr (up_m rfl up_h)⟩ rfl ?_
  refine al_skip' ⟨_, rfl, .inr (u2 rfl up_h)⟩ rfl ?_
  refine al_skip' ⟨_, rfl, .inl (up_m rfl (u2 rfl (u4 rfl hb_6)))⟩ rfl ?_
  refine ar (ro_pickT (u8 rfl hb_6) ev_c) rfl <| ar (ro_move up_h) rfl <| al_skip' ⟨_, rfl, .inl up_h⟩ rfl ?_
  refine al_skip' ⟨_, rfl, .inl (up_m rfl up_h)⟩ rfl ?_
  refine al_skip' ⟨_, rfl, .inl (u2 rfl up_h)⟩ rfl ?_
  refine ar (ro_pickT (up_m rfl (u2 rfl up_h)) ev_c) rfl <| ae3 (u2 rfl (u16 rfl s1_3)) (u2 rfl (u16 rfl s2_3)) up_h ?_; clear hb_6 s18_3 s1_3 s2_3; intro e_7 s1_7 s2_7 s36_7
  refine then_n <| aw_true s36_7 <| aw_seq <| at_ <| ar (ro_assign ev_c) rfl <| ae1 up_h ?_; clear s1_7 s2_7 s36_7; intro e_9 s4_9
  refine then_n <| aw_ret <| then_r <| ret1 (.inr rfl) (by kernel_rfl) (resV_tmp s4_9) (.ro _ rfl) ?_
  clear s4_9 mo1_1 mo0_1 ml_1
  (first | rfl | (exfalso; omega) | (simp; done) | (exfalso; simp_all; done) | (rw [h9 (by omega)]; simp; done) | (have h8 := h9 (by omega); subst h8; simp_all; done) | (simp_all; done))
 replace hq_6 := bnf hq_6
 refine al_ro' (ro_move (u4 rfl s1_3)) ⟨_, rfl, hb_6⟩ rfl ?_
 refine al_ro' (ro_len_str up_h rfl qun9) ⟨_, rfl, (up_m rfl hb_6)⟩ rfl ?_
 refine al_ro' (ro_gtr up_h ev_c) ⟨_, rfl, (u2 rfl hb_6)⟩ rfl ?_
 refine al_ro' (ro_move up_h) ⟨_, rfl, (up_m rfl (u2 rfl hb_6))⟩ rfl ?_
 refine al_case up_h (fun hb_10 hq_10 => ?_) (fun hb_10 hq_10 => ?_)
 ·replace hq_10 := bt hq_10
  refine al_ro' (ro_move (u8 rfl s1_3)) ⟨_, rfl, hb_10⟩ rfl ?_
  refine al_ro' (ro_len_str up_h rfl qun9) ⟨_, rfl, (up_m rfl hb_10)⟩ rfl ?_
  refine al_ro' (ro_leq up_h ev_c) ⟨_, rfl, (u2 rfl hb_10)⟩ rfl ?_
  refine al_ro' (ro_pickT (up_m rfl (u2 rfl hb_10)) up_h) ⟨_, rfl, (up_m rfl (u2 rfl (u4 rfl hb_6)))⟩ rfl ?_
  refine ar (ro_pickF (u8 rfl hb_6) up_h) rfl <| ar (ro_move up_h) rfl <| al_case up_h (fun hb_11 hq_11 => ?_) (fun hb_11 hq_11 => ?_)
  ·replace hq_11 := bt hq_11
   refine al_skip' ⟨_, rfl, .inl hb_11⟩ rfl ?_
   refine al_skip' ⟨_, rfl, .inl (up_m rfl hb_11)⟩ rfl ?_
   refine al_skip' ⟨_, rfl, .inl (u2 rfl hb_11)⟩ rfl ?_
   refine ar (ro_pickT (up_m rfl (u2 rfl hb_11)) ev_c) rfl <| ae3 (u2 rfl (u16 rfl s1_3)) (u2 rfl (u16 rfl s2_3)) up_h ?_; clear hb_10 hb_11 hb_6 s18_3 s1_3 s2_3; intro e_12 s1_12 s2_12 s36_12
   refine then_n <| aw_true s36_12 <| aw_seq <| at_ <| ar (ro_assign ev_c) rfl <| ae1 up_h ?_; clear s1_12 s2_12 s36_12; intro e_14 s4_14
   refine then_n <| aw_ret <| then_r <| ret1 (.inr rfl) (by kernel_rfl) (resV_tmp s4_14) (.ro _ rfl) ?_
   clear s4_14 mo1_1 mo0_1 ml_1
   (first | rfl | (exfalso; omega) | (simp; done) | (exfalso; simp_all; done) | (rw [h9 (by omega)]; simp; done) | (have h8 := h9 (by omega); subst h8; simp_all; done) | (simp_all; done))
  replace hq_11 := bf hq_11
  refine al_ro' (ro_move (u2 rfl (u4 rfl (u8 rfl s1_3)))) ⟨_, rfl, hb_11⟩ rfl ?_
  refine al_ro' (ro_len_str up_h rfl qun9) ⟨_, rfl, (up_m rfl hb_11)⟩ rfl ?_
  refine al_ro' (ro_gtr up_h ev_c) ⟨_, rfl, (u2 rfl hb_11)⟩ rfl ?_
  refine ar (ro_pickF (up_m rfl (u2 rfl hb_11)) up_h) rfl <| ae3 (u2 rfl (u16 rfl s1_3)) (u2 rfl (u16 rfl s2_3)) up_h ?_; clear hb_10 hb_11 hb_6 s18_3 s1_3 s2_3; intro e_15 s1_15 s2_15 s36_15
  refine then_n <| aw_case s36_15 (fun hq_16 => ?_) (fun hq_16 => ?_)
  ·replace hq_16 := bt hq_16
   refine aw_seq <| at_ <| ar (ro_assign ev_c) rfl <| ae1 up_h ?_; clear s1_15 s2_15 s36_15; intro e_17 s4_17
   refine then_n <| aw_ret <| then_r <| ret1 (.inr rfl) (by kernel_rfl) (resV_tmp s4_17) (.ro _ rfl) ?_
   clear s4_17 mo1_1 mo0_1 ml_1
   (first | rfl | (exfalso; omega) | (simp; done) | (exfalso; simp_all; done) | (rw [h9 (by omega)]; simp; done) | (have h8 := h9 (by omega); subst h8; simp_all; done) | (simp_all; done))
  replace hq_16 := bf hq_16
  refine aw_skip <| then_n <| aw_seq <| at_ <| ar (ro_move s1_15) rfl <| ar (ro_callG (evL_cons up_h evL_nil) rfl mo0_1 (hA (by omega)) z37_hcf9) rfl ?_
  refine ar (ro_move up_h) rfl <| ar (ro_extract up_h rfl) rfl <| ar (ro_extract (up_m rfl up_h) rfl) rfl <| ar (ro_extract (u2 rfl up_h) rfl) rfl <| al_stm (st_alloc qaz24 rfl ml_1) trivial rfl (fun m_18 hm_18 => ?_)
  have mo2_18 := m_push hm_18 ml_1
  simp only [pS, Value.cells, Nat.reduceAdd] at mo2_18
  have mo1_18 := m_push_o hm_18 mo1_1
  have mo0_18 := m_push_o hm_18 mo0_1
  have ml_18 := m_push_l hm_18 ml_1
  have ml_18 : _ = 3 := ml_18
  clear hm_18 mo1_1 mo0_1
  refine al_stm (st_alloc qaz28 rfl ml_18) trivial rfl (fun m_19 hm_19 => ?_)
  have mo3_19 := m_push hm_19 ml_18
  simp only [pS, Value.cells, Nat.reduceAdd] at mo3_19
  have mo2_19 := m_push_o hm_19 mo2_18
  have mo1_19 := m_push_o hm_19 mo1_18
  have mo0_19 := m_push_o hm_19 mo0_18
  have ml_19 := m_push_l hm_19 ml_18
  have ml_19 : _ = 4 := ml_19
  clear hm_19 mo2_18 mo1_18 mo0_18
  refine al_stm (st_store (up_m rfl up_h) (u4 rfl up_h) rfl rfl mo2_19 qsz24 rfl (nle rfl)) trivial rfl (fun m_20 hm_20 => ?_)
  have mo2_20 := m_set hm_20 mo2_19
  simp only [pS, Value.cells, Nat.reduceAdd] at mo2_20
  have mo3_20 := m_set_o hm_20 mo3_19 (by decide)
  have mo1_20 := m_set_o hm_20 mo1_19 (by decide)
  have mo0_20 := m_set_o hm_20 mo0_19 (by decide)
  have ml_20 := m_set_l hm_20 ml_19
  clear hm_20 mo3_19 mo2_19 mo1_19 mo0_19
  refine al_stm (st_store (up_n up_h) (up_n (up_m rfl (u2 rfl up_h))) rfl rfl mo3_20 qsz28 rfl (nle rfl)) trivial rfl (fun m_21 hm_21 => ?_)
  have mo3_21 := m_set hm_21 mo3_20
  simp only [pS, Value.cells, Nat.reduceAdd] at mo3_21
  have mo2_21 := m_set_o hm_21 mo2_20 (by decide)
  have mo1_21 := m_set_o hm_21 mo1_20 (by decide)
  have mo0_21 := m_set_o hm_21 mo0_20 (by decide)
  have ml_21 := m_set_l hm_21 ml_20
  clear hm_21 mo2_20 mo3_20 mo1_20 mo0_20
  refine ar (ro_assign (up_n (up_n (u2 rfl up_h)))) rfl <| ae5 (up_m rfl (up_n (up_n (u8 rfl s1_15)))) (up_m rfl (up_n (up_n (u8 rfl s2_15)))) (up_m rfl (up_n (up_n (up_m rfl up_h)))) (up_m rfl (up_n (up_n up_h))) up_h ?_; clear s1_15 s2_15 s36_15; intro e_22 s1_22 s2_22 s5_22 s6_22 s7_22
  refine then_n <| aw_seq <| at_ <| ar (ro_move s1_22) rfl <| ar (ro_call (evL_cons up_h evL_nil) rfl (hB (by omega)) z37_hcf10) rfl ?_
  refine ar (ro_move up_h) rfl <| ar (ro_extract up_h rfl) rfl <| ar (ro_extract (up_m rfl up_h) rfl) rfl <| ar (ro_extract (u2 rfl up_h) rfl) rfl <| al_stm (st_alloc qaz24 rfl ml_21) trivial rfl (fun m_23 hm_23 => ?_)
  have mo4_23 := m_push hm_23 ml_21
  simp only [pS, Value.cells, Nat.reduceAdd] at mo4_23
  have mo3_23 := m_push_o hm_23 mo3_21
  have mo2_23 := m_push_o hm_23 mo2_21
  have mo1_23 := m_push_o hm_23 mo1_21
  have mo0_23 := m_push_o hm_23 mo0_21
  have ml_23 := m_push_l hm_23 ml_21
  have ml_23 : _ = 5 := ml_23
  clear hm_23 mo3_21 mo2_21 mo1_21 mo0_21
  refine al_stm (st_alloc qaz28 rfl ml_23) trivial rfl (fun m_24 hm_24 => ?_)
  have mo5_24 := m_push hm_24 ml_23
  simp only [pS, Value.cells, Nat.reduceAdd] at mo5_24
  have mo4_24 := m_push_o hm_24 mo4_23
  have mo3_24 := m_push_o hm_24 mo3_23
  have mo2_24 := m_push_o hm_24 mo2_23
  have mo1_24 := m_push_o hm_24 mo1_23
  have mo0_24 := m_push_o hm_24 mo0_23
  have ml_24 := m_push_l hm_24 ml_23
  have ml_24 : _ = 6 := ml_24
  clear hm_24 mo4_23 mo3_23 mo2_23 mo1_23 mo0_23
  refine al_stm (st_store (up_m rfl up_h) (u4 rfl up_h) rfl rfl mo4_24 qsz24 rfl (nle rfl)) trivial rfl (fun m_25 hm_25 => ?_)
  have mo4_25 := m_set hm_25 mo4_24
  simp only [pS, Value.cells, Nat.reduceAdd] at mo4_25
  have mo5_25 := m_set_o hm_25 mo5_24 (by decide)
  have mo3_25 := m_set_o hm_25 mo3_24 (by decide)
  have mo2_25 := m_set_o hm_25 mo2_24 (by decide)
  have mo1_25 := m_set_o hm_25 mo1_24 (by decide)
  have mo0_25 := m_set_o hm_25 mo0_24 (by decide)
  have ml_25 := m_set_l hm_25 ml_24
  clear hm_25 mo5_24 mo4_24 mo3_24 mo2_24 mo1_24 mo0_24
  refine al_stm (st_store (up_n up_h) (up_n (up_m rfl (u2 rfl up_h))) rfl rfl mo5_25 qsz28 rfl (nle rfl)) trivial rfl (fun m_26 hm_26 => ?_)
  have mo5_26 := m_set hm_26 mo5_25
  simp only [pS, Value.cells, Nat.reduceAdd] at mo5_26
  have mo4_26 := m_set_o hm_26 mo4_25 (by decide)
  have mo3_26 := m_set_o hm_26 mo3_25 (by decide)
  have mo2_26 := m_set_o hm_26 mo2_25 (by decide)
  have mo1_26 := m_set_o hm_26 mo1_25 (by decide)
  have mo0_26 := m_set_o hm_26 mo0_25 (by decide)
  have ml_26 := m_set_l hm_26 ml_25
  clear hm_26 mo4_25 mo5_25 mo3_25 mo2_25 mo1_25 mo0_25
  refine ar (ro_assign (up_n (up_n (u2 rfl up_h)))) rfl <| ae7 (up_m rfl (up_n (up_n (u8 rfl s2_22)))) (up_m rfl (up_n (up_n (u8 rfl s5_22)))) (up_m rfl (up_n (up_n (u8 rfl s6_22)))) (up_m rfl (up_n (up_n (u8 rfl s7_22)))) (up_m rfl (up_n (up_n (up_m rfl up_h)))) (up_m rfl (up_n (up_n up_h))) up_h ?_; clear s1_22 s2_22 s5_22 s6_22 s7_22; intro e_27 s2_27 s5_27 s6_27 s7_27 s8_27 s9_27 s10_27
  refine then_n <| aw_seq <| aw_seq <| at_ <| ar (ro_move s7_27) rfl <| ar (ro_move (up_m rfl s10_27)) rfl <| ar (ro_neq (up_m rfl up_h) up_h) rfl <| ar (ro_move up_h) rfl <| al_case up_h (fun hb_28 hq_28 => ?_) (fun hb_28 hq_28 => ?_)
  ·replace hq_28 := bnt hq_28; exfalso; omega
  replace hq_28 := bnf hq_28
  refine al_ro' (ro_eq (ro_ld_ptr z37_ty28 rfl mo3_26 (u4 rfl s6_27) (nle rfl)) (by simp only [pS, Value.cells, Nat.reduceAdd] <;> rfl)) ⟨_, rfl, hb_28⟩ rfl ?_
  refine al_ro' (ro_eq (ro_ld_ptr z37_ty28 rfl mo5_26 (up_m rfl (u4 rfl s9_27)) (nle rfl)) (by simp only [pS, Value.cells, Nat.reduceAdd] <;> rfl)) ⟨_, rfl, (up_m rfl hb_28)⟩ rfl ?_
  refine al_ro' (ro_sqneq (up_m rfl up_h) up_h rfl rfl z37_gq28 z37_sq28 (by decide)) ⟨_, rfl, (u2 rfl hb_28)⟩ rfl ?_
  refine ar (ro_pickF (up_m rfl (u2 rfl hb_28)) up_h) rfl <| ar (ro_move up_h) rfl <| al_case up_h (fun hb_32 hq_32 => ?_) (fun hb_32 hq_32 => ?_)
  ·replace hq_32 := bt' hq_32
   refine al_skip' ⟨_, rfl, .inl hb_32⟩ rfl ?_
   refine al_skip' ⟨_, rfl, .inl (up_m rfl hb_32)⟩ rfl ?_
   refine al_skip' ⟨_, rfl, .inl (u2 rfl hb_32)⟩ rfl ?_
   refine al_skip' ⟨_, rfl, .inl (up_m rfl (u2 rfl hb_32))⟩ rfl ?_
   refine ar (ro_pickT (u4 rfl hb_32) ev_c) rfl <| ae2 (u2 rfl (u4 rfl (u8 rfl s2_27))) up_h ?_; clear hb_28 hb_32 s10_27 s2_27 s5_27 s6_27 s7_27 s8_27 s9_27; intro e_33 s2_33 s62_33
   refine then_n <| aw_true s62_33 <| aw_seq <| at_ <| ar (ro_assign ev_c) rfl <| ae1 up_h ?_; clear s2_33 s62_33; intro e_35 s4_35
   refine then_n <| aw_ret <| then_r <| ret1 (.inr rfl) (by kernel_rfl) (resV_tmp s4_35) (.ro _ rfl) ?_
   clear s4_35 mo5_26 mo4_26 mo3_26 mo2_26 mo1_26 mo0_26 ml_26
   (first | rfl | (exfalso; omega) | (simp; done) | (exfalso; simp_all; done) | (rw [h9 (by omega)]; simp; done) | (have h8 := h9 (by omega); subst h8; simp_all; done) | (simp_all; done))
  replace hq_32 := bf' hq_32
  refine al_ro' (ro_eq (ro_ld_ptr z37_ty24 rfl mo2_26 (up_m rfl (u8 rfl s5_27)) (nle rfl)) (by simp only [pS, Value.cells, Nat.reduceAdd] <;> rfl)) ⟨_, rfl, hb_32⟩ rfl ?_
  refine al_ro' (ro_eq (ro_ld_ptr z37_ty24 rfl mo4_26 (u2 rfl (u8 rfl s8_27)) (nle rfl)) (by simp only [pS, Value.cells, Nat.reduceAdd] <;> rfl)) ⟨_, rfl, (up_m rfl hb_32)⟩ rfl ?_
  refine al_ro' (ro_call (evL_cons (up_m rfl up_h) (evL_cons up_h evL_nil)) rfl (hX) z37_hcf11) ⟨_, rfl, (u2 rfl hb_32)⟩ rfl ?_
  refine al_ro' (ro_not up_h) ⟨_, rfl, (up_m rfl (u2 rfl hb_32))⟩ rfl ?_
  refine ar (ro_pickF (u4 rfl hb_32) up_h) rfl <| ae2 (u2 rfl (u4 rfl (u8 rfl s2_27))) up_h ?_; clear hb_28 hb_32 s10_27 s2_27 s5_27 s6_27 s7_27 s8_27 s9_27; intro e_36 s2_36 s62_36
  refine then_n <| aw_case s62_36 (fun hq_37 => ?_) (fun hq_37 => ?_)
  ·replace hq_37 := bt' hq_37; cases hq_37
  replace hq_37 := bf' hq_37
  refine aw_skip <| then_n <| aw_seq <| at_ <| ar (ro_eq (ro_ld_ptr z37_ty24 rfl mo1_26 s2_36 (nle rfl)) (by simp only [pS, Value.cells, Nat.reduceAdd] <;> rfl)) rfl ?_
  refine ar (ro_call (evL_cons up_h evL_nil) rfl (hC (by omega)) z37_hcf13) rfl ?_
  refine ar (ro_callG (evL_cons up_h evL_nil) rfl mo0_26 (hK (by omega) (by omega)) z37_hcf12) rfl ?_
  refine ar (ro_move up_h) rfl <| ar (ro_extract up_h rfl) rfl <| ar (ro_extract (up_m rfl up_h) rfl) rfl <| ar (ro_assign (up_m rfl up_h)) rfl <| ar (ro_assign (up_m rfl up_h)) rfl <| ae3 (u8 rfl s2_36) (up_m rfl up_h) up_h ?_; clear s2_36 s62_36; intro e_39 s2_39 s11_39 s12_39
  refine then_n <| aw_seq <| aw_seq <| at_ <| ar (ro_eq (ro_ld_ptr z37_ty24 rfl mo1_26 s2_39 (nle rfl)) (by simp only [pS, Value.cells, Nat.reduceAdd] <;> rfl)) rfl ?_
  refine ar (ro_call (evL_cons up_h evL_nil) rfl (hT (by omega) (by omega)) z37_hcf14) rfl ?_
  refine ar (ro_assign up_h) rfl <| ae4 (up_m rfl (u2 rfl s2_39)) (up_m rfl (u2 rfl s11_39)) (up_m rfl (u2 rfl s12_39)) up_h ?_; clear s11_39 s12_39 s2_39; intro e_40 s2_40 s11_40 s12_40 s13_40
  refine then_n <| aw_seq <| at_ <| ar (ro_move s13_40) rfl <| ar (ro_neq up_h ev_c) rfl <| ae5 (u2 rfl s2_40) (u2 rfl s11_40) (u2 rfl s12_40) (u2 rfl s13_40) up_h ?_; clear s11_40 s12_40 s13_40 s2_40; intro e_41 s2_41 s11_41 s12_41 s13_41 s72_41
  refine then_n <| aw_case s72_41 (fun hq_42 => ?_) (fun hq_42 => ?_)
  ·replace hq_42 := bnt hq_42
   refine aw_seq <| at_ <| ar (ro_move s12_41) rfl <| ar (ro_move (up_m rfl s13_41)) rfl <| ar (ro_eql (up_m rfl up_h) up_h) rfl ?_
   refine ar (ro_move up_h) rfl <| al_case up_h (fun hb_43 hq_43 => ?_) (fun hb_43 hq_43 => ?_)
   ·replace hq_43 := bt hq_43
    refine al_ro' (ro_move (u4 rfl s11_41)) ⟨_, rfl, hb_43⟩ rfl ?_
    refine al_ro' (ro_seql up_h ev_c) ⟨_, rfl, (up_m rfl hb_43)⟩ rfl ?_
    refine ar (ro_pickT (u2 rfl hb_43) up_h) rfl <| ar (ro_assign up_h) rfl <| ae1 up_h ?_; clear hb_43 s11_41 s12_41 s13_41 s2_41 s72_41; intro e_44 s4_44
    refine then_n <| aw_ret <| then_r <| ret1 (.inr rfl) (by kernel_rfl) (resV_tmp s4_44) (.ro _ rfl) ?_
    clear s4_44 mo5_26 mo4_26 mo3_26 mo2_26 mo1_26 mo0_26 ml_26
    (first | rfl | (exfalso; omega) | (simp; done) | (exfalso; simp_all; done) | (rw [h9 (by omega)]; simp; done) | (have h8 := h9 (by omega); subst h8; simp_all; done) | (simp_all; done))
   ·replace hq_43 := bf hq_43; exfalso; omega
  replace hq_42 := bnf hq_42
  refine aw_skip <| then_n <| aw_seq <| at_ <| ar (ro_move s11_41) rfl <| ar (ro_callG (evL_cons up_h evL_nil) rfl mo0_26 ((h0 (by omega)).1) z37_hcf9) rfl ?_
  refine ar (ro_move up_h) rfl <| ar (ro_extract up_h rfl) rfl <| ar (ro_extract (up_m rfl up_h) rfl) rfl <| ar (ro_extract (u2 rfl up_h) rfl) rfl <| al_stm (st_alloc qaz24 rfl ml_26) trivial rfl (fun m_46 hm_46 => ?_)
  have mo6_46 := m_push hm_46 ml_26
  simp only [pS, Value.cells, Nat.reduceAdd] at mo6_46
  have mo5_46 := m_push_o hm_46 mo5_26
  have mo4_46 := m_push_o hm_46 mo4_26
  have mo3_46 := m_push_o hm_46 mo3_26
  have mo2_46 := m_push_o hm_46 mo2_26
  have mo1_46 := m_push_o hm_46 mo1_26
  have mo0_46 := m_push_o hm_46 mo0_26
  have ml_46 := m_push_l hm_46 ml_26
  have ml_46 : _ = 7 := ml_46
  clear hm_46 mo5_26 mo4_26 mo3_26 mo2_26 mo1_26 mo0_26
  refine al_stm (st_alloc qaz28 rfl ml_46) trivial rfl (fun m_47 hm_47 => ?_)
  have mo7_47 := m_push hm_47 ml_46
  simp only [pS, Value.cells, Nat.reduceAdd] at mo7_47
  have mo6_47 := m_push_o hm_47 mo6_46
  have mo5_47 := m_push_o hm_47 mo5_46
  have mo4_47 := m_push_o hm_47 mo4_46
  have mo3_47 := m_push_o hm_47 mo3_46
  have mo2_47 := m_push_o hm_47 mo2_46
  have mo1_47 := m_push_o hm_47 mo1_46
  have mo0_47 := m_push_o hm_47 mo0_46
  have ml_47 := m_push_l hm_47 ml_46
  have ml_47 : _ = 8 := ml_47
  clear hm_47 mo6_46 mo5_46 mo4_46 mo3_46 mo2_46 mo1_46 mo0_46
  refine al_stm (st_store (up_m rfl up_h) (u4 rfl up_h) rfl rfl mo6_47 qsz24 rfl (nle rfl)) trivial rfl (fun m_48 hm_48 => ?_)
  have mo6_48 := m_set hm_48 mo6_47
  simp only [pS, Value.cells, Nat.reduceAdd] at mo6_48
  have mo7_48 := m_set_o hm_48 mo7_47 (by decide)
  have mo5_48 := m_set_o hm_48 mo5_47 (by decide)
  have mo4_48 := m_set_o hm_48 mo4_47 (by decide)
  have mo3_48 := m_set_o hm_48 mo3_47 (by decide)
  have mo2_48 := m_set_o hm_48 mo2_47 (by decide)
  have mo1_48 := m_set_o hm_48 mo1_47 (by decide)
  have mo0_48 := m_set_o hm_48 mo0_47 (by decide)
  have ml_48 := m_set_l hm_48 ml_47
  clear hm_48 mo7_47 mo6_47 mo5_47 mo4_47 mo3_47 mo2_47 mo1_47 mo0_47
  refine al_stm (st_store (up_n up_h) (up_n (up_m rfl (u2 rfl up_h))) rfl rfl mo7_48 qsz28 rfl (nle rfl)) trivial rfl (fun m_49 hm_49 => ?_)
  have mo7_49 := m_set hm_49 mo7_48
  simp only [pS, Value.cells, Nat.reduceAdd] at mo7_49
  have mo6_49 := m_set_o hm_49 mo6_48 (by decide)
  have mo5_49 := m_set_o hm_49 mo5_48 (by decide)
  have mo4_49 := m_set_o hm_49 mo4_48 (by decide)
  have mo3_49 := m_set_o hm_49 mo3_48 (by decide)
  have mo2_49 := m_set_o hm_49 mo2_48 (by decide)
  have mo1_49 := m_set_o hm_49 mo1_48 (by decide)
  have mo0_49 := m_set_o hm_49 mo0_48 (by decide)
  have ml_49 := m_set_l hm_49 ml_48
  clear hm_49 mo6_48 mo7_48 mo5_48 mo4_48 mo3_48 mo2_48 mo1_48 mo0_48
  refine ar (ro_assign (up_n (up_n (u2 rfl up_h)))) rfl <| ae6 (up_m rfl (up_n (up_n (u8 rfl s2_41)))) (up_m rfl (up_n (up_n (u8 rfl s11_41)))) (up_m rfl (up_n (up_n (u8 rfl s12_41)))) (up_m rfl (up_n (up_n (up_m rfl up_h)))) (up_m rfl (up_n (up_n up_h))) up_h ?_; clear s11_41 s12_41 s13_41 s2_41 s72_41; intro e_50 s2_50 s11_50 s12_50 s14_50 s15_50 s16_50
  refine then_n <| aw_seq <| at_ <| ar (ro_move s12_50) rfl <| ar (ro_eql up_h ev_c) rfl ?_
  refine ar (ro_move up_h) rfl <| al_case up_h (fun hb_51 hq_51 => ?_) (fun hb_51 hq_51 => ?_)
  ·replace hq_51 := bt hq_51
   refine al_ro' (ro_move (up_m rfl (u2 rfl s11_50))) ⟨_, rfl, hb_51⟩ rfl ?_
   refine al_ro' (ro_eq (ro_ld_ptr z37_ty24 rfl mo1_49 (u4 rfl s2_50) (nle rfl)) (by simp only [pS, Value.cells, Nat.reduceAdd] <;> rfl)) ⟨_, rfl, (up_m rfl hb_51)⟩ rfl ?_
   refine al_ro' (ro_call (evL_cons up_h evL_nil) rfl ((h0 (by omega)).2.1) z37_hcf15) ⟨_, rfl, (u2 rfl hb_51)⟩ rfl ?_
   refine al_ro' (ro_seql (u2 rfl up_h) up_h) ⟨_, rfl, (up_m rfl (u2 rfl hb_51))⟩ rfl ?_
   refine ar (ro_pickT (u4 rfl hb_51) up_h) rfl <| ar (ro_move up_h) rfl <| al_case up_h (fun hb_52 hq_52 => ?_) (fun hb_52 hq_52 => ?_)
   ·skip
    refine al_ro' (ro_move (up_m rfl (u8 rfl s16_50))) ⟨_, rfl, hb_52⟩ rfl ?_
    refine al_ro' (ro_eql up_h ev_c) ⟨_, rfl, (up_m rfl hb_52)⟩ rfl ?_
    refine ar (ro_pickT (u2 rfl hb_52) up_h) rfl <| ar (ro_move up_h) rfl <| al_case up_h (fun hb_53 hq_53 => ?_) (fun hb_53 hq_53 => ?_)
    ·replace hq_53 := bt hq_53
     refine al_ro' (ro_eq (ro_ld_ptr z37_ty28 rfl mo7_49 (up_m rfl (u4 rfl (u8 rfl s15_50))) (nle rfl)) (by simp only [pS, Value.cells, Nat.reduceAdd] <;> rfl)) ⟨_, rfl, hb_53⟩ rfl ?_
     refine al_ro' (ro_build evP_nil qbz28 qbu28 qbp28 rfl) ⟨_, rfl, (up_m rfl hb_53)⟩ rfl ?_
     refine al_ro' (ro_sqeql (up_m rfl up_h) up_h rfl rfl z37_gq28 z37_sq28 (by decide)) ⟨_, rfl, (u2 rfl hb_53)⟩ rfl ?_
     refine ar (ro_pickT (up_m rfl (u2 rfl hb_53)) up_h) rfl <| ar (ro_move up_h) rfl <| al_case up_h (fun hb_54 hq_54 => ?_) (fun hb_54 hq_54 => ?_)
     ·skip
      refine al_ro' (ro_eq (ro_ld_ptr z37_ty24 rfl mo6_49 (u2 rfl (u16 rfl s14_50)) (nle rfl)) (by simp only [pS, Value.cells, Nat.reduceAdd] <;> rfl)) ⟨_, rfl, hb_54⟩ rfl ?_
      refine al_ro' (ro_eq (ro_ld_ptr z37_ty24 rfl mo1_49 (up_m rfl (u2 rfl (u16 rfl s2_50))) (nle rfl)) (by simp only [pS, Value.cells, Nat.reduceAdd] <;> rfl)) ⟨_, rfl, (up_m rfl hb_54)⟩ rfl ?_
      refine al_ro' (ro_call (evL_cons (up_m rfl up_h) (evL_cons up_h evL_nil)) rfl ((h0 (by omega)).2.2) z37_hcf11) ⟨_, rfl, (u2 rfl hb_54)⟩ rfl ?_
      refine ar (ro_pickT (up_m rfl (u2 rfl hb_54)) up_h) rfl <| ar (ro_assign up_h) rfl <| ae1 up_h ?_; clear hb_51 hb_52 hb_53 hb_54 s11_50 s12_50 s14_50 s15_50 s16_50 s2_50; intro e_55 s4_55
      refine then_n <| aw_ret <| ret1 (.inr rfl) (by kernel_rfl) (resV_tmp s4_55) (.ro _ rfl) ?_
      clear s4_55 mo7_49 mo6_49 mo5_49 mo4_49 mo3_49 mo2_49 mo1_49 mo0_49 ml_49
      (first | rfl | (exfalso; omega) | (simp; done) | (exfalso; simp_all; done) | (rw [h9 (by omega)]; simp; done) | (have h8 := h9 (by omega); subst h8; simp_all; done) | (simp_all; done))
     ·cases hq_54
    ·replace hq_53 := bf hq_53; exfalso; omega
   refine al_skip' ⟨_, rfl, .inl hb_52⟩ rfl ?_
   refine al_skip' ⟨_, rfl, .inl (up_m rfl hb_52)⟩ rfl ?_
   refine ar (ro_pickF (u2 rfl hb_52) ev_c) rfl <| ar (ro_move up_h) rfl <| al_skip' ⟨_, rfl, .inl up_h⟩ rfl ?_
   refine al_skip' ⟨_, rfl, .inl (up_m rfl up_h)⟩ rfl ?_
   refine al_skip' ⟨_, rfl, .inl (u2 rfl up_h)⟩ rfl ?_
   refine ar (ro_pickF (up_m rfl (u2 rfl up_h)) ev_c) rfl <| ar (ro_move up_h) rfl <| al_skip' ⟨_, rfl, .inl up_h⟩ rfl ?_
   refine al_skip' ⟨_, rfl, .inl (up_m rfl up_h)⟩ rfl ?_
   refine al_skip' ⟨_, rfl, .inl (u2 rfl up_h)⟩ rfl ?_
   refine ar (ro_pickF (up_m rfl (u2 rfl up_h)) ev_c) rfl <| ar (ro_assign up_h) rfl <| ae1 up_h ?_; clear hb_51 hb_52 s11_50 s12_50 s14_50 s15_50 s16_50 s2_50; intro e_58 s4_58
   refine then_n <| aw_ret <| ret1 (.inr rfl) (by kernel_rfl) (resV_tmp s4_58) (.ro _ rfl) ?_
   clear s4_58 mo7_49 mo6_49 mo5_49 mo4_49 mo3_49 mo2_49 mo1_49 mo0_49 ml_49
   (first | rfl | (exfalso; omega) | (simp; done) | (exfalso; simp_all; done) | (rw [h9 (by omega)]; simp; done) | (have h8 := h9 (by omega); subst h8; simp_all; done) | (simp_all; done))
  ·replace hq_51 := bf hq_51; exfalso; omega
 replace hq_10 := bf hq_10
 refine al_skip' ⟨_, rfl, .inl hb_10⟩ rfl ?_
 refine al_skip' ⟨_, rfl, .inl (up_m rfl hb_10)⟩ rfl ?_
 refine al_skip' ⟨_, rfl, .inl (u2 rfl hb_10)⟩ rfl ?_
 refine al_ro' (ro_pickF (up_m rfl (u2 rfl hb_10)) ev_c) ⟨_, rfl, (up_m rfl (u2 rfl (u4 rfl hb_6)))⟩ rfl ?_
 refine ar (ro_pickF (u8 rfl hb_6) up_h) rfl <| ar (ro_move up_h) rfl <| al_ro' (ro_move (u2 rfl (u4 rfl (u8 rfl s1_3)))) ⟨_, rfl, up_h⟩ rfl ?_
 refine al_ro' (ro_len_str up_h rfl qun9) ⟨_, rfl, (up_m rfl up_h)⟩ rfl ?_
 refine al_ro' (ro_gtr up_h ev_c) ⟨_, rfl, (u2 rfl up_h)⟩ rfl ?_
 refine ar (ro_pickF (up_m rfl (u2 rfl up_h)) up_h) rfl <| ae3 (u2 rfl (u16 rfl s1_3)) (u2 rfl (u16 rfl s2_3)) up_h ?_; clear hb_10 hb_6 s18_3 s1_3 s2_3; intro e_60 s1_60 s2_60 s36_60
 refine then_n <| aw_case s36_60 (fun hq_61 => ?_) (fun hq_61 => ?_)
 ·replace hq_61 := bt hq_61; exfalso; omega
 replace hq_61 := bf hq_61
 refine aw_skip <| then_n <| aw_seq <| at_ <| ar (ro_move s1_60) rfl <| ar (ro_callG (evL_cons up_h evL_nil) rfl mo0_1 (hA (by omega)) z37_hcf9) rfl ?_
 refine ar (ro_move up_h) rfl <| ar (ro_extract up_h rfl) rfl <| ar (ro_extract (up_m rfl up_h) rfl) rfl <| ar (ro_extract (u2 rfl up_h) rfl) rfl <| al_stm (st_alloc qaz24 rfl ml_1) trivial rfl (fun m_63 hm_63 => ?_)
 have mo2_63 := m_push hm_63 ml_1
 simp only [pS, Value.cells, Nat.reduceAdd] at mo2_63
 have mo1_63 := m_push_o hm_63 mo1_1
 have mo0_63 := m_push_o hm_63 mo0_1
 have ml_63 := m_push_l hm_63 ml_1
 have ml_63 : _ = 3 := ml_63
 clear hm_63 mo1_1 mo0_1
 refine al_stm (st_alloc qaz28 rfl ml_63) trivial rfl (fun m_64 hm_64 => ?_)
 have mo3_64 := m_push hm_64 ml_63
 simp only [pS, Value.cells, Nat.reduceAdd] at mo3_64
 have mo2_64 := m_push_o hm_64 mo2_63
 have mo1_64 := m_push_o hm_64 mo1_63
 have mo0_64 := m_push_o hm_64 mo0_63
 have ml_64 := m_push_l hm_64 ml_63
 have ml_64 : _ = 4 := ml_64
 clear hm_64 mo2_63 mo1_63 mo0_63
 refine al_stm (st_store (up_m rfl up_h) (u4 rfl up_h) rfl rfl mo2_64 qsz24 rfl (nle rfl)) trivial rfl (fun m_65 hm_65 => ?_)
 have mo2_65 := m_set hm_65 mo2_64
 simp only [pS, Value.cells, Nat.reduceAdd] at mo2_65
 have mo3_65 := m_set_o hm_65 mo3_64 (by decide)
 have mo1_65 := m_set_o hm_65 mo1_64 (by decide)
 have mo0_65 := m_set_o hm_65 mo0_64 (by decide)
 have ml_65 := m_set_l hm_65 ml_64
 clear hm_65 mo3_64 mo2_64 mo1_64 mo0_64
 refine al_stm (st_store (up_n up_h) (up_n (up_m rfl (u2 rfl up_h))) rfl rfl mo3_65 qsz28 rfl (nle rfl)) trivial rfl (fun m_66 hm_66 => ?_)
 have mo3_66 := m_set hm_66 mo3_65
 simp only [pS, Value.cells, Nat.reduceAdd] at mo3_66
 have mo2_66 := m_set_o hm_66 mo2_65 (by decide)
 have mo1_66 := m_set_o hm_66 mo1_65 (by decide)
 have mo0_66 := m_set_o hm_66 mo0_65 (by decide)
 have ml_66 := m_set_l hm_66 ml_65
 clear hm_66 mo2_65 mo3_65 mo1_65 mo0_65
 refine ar (ro_assign (up_n (up_n (u2 rfl up_h)))) rfl <| ae5 (up_m rfl (up_n (up_n (u8 rfl s1_60)))) (up_m rfl (up_n (up_n (u8 rfl s2_60)))) (up_m rfl (up_n (up_n (up_m rfl up_h)))) (up_m rfl (up_n (up_n up_h))) up_h ?_; clear s1_60 s2_60 s36_60; intro e_67 s1_67 s2_67 s5_67 s6_67 s7_67
 refine then_n <| aw_seq <| at_ <| ar (ro_move s1_67) rfl <| ar (ro_call (evL_cons up_h evL_nil) rfl (hB (by omega)) z37_hcf10) rfl ?_
 refine ar (ro_move up_h) rfl <| ar (ro_extract up_h rfl) rfl <| ar (ro_extract (up_m rfl up_h) rfl) rfl <| ar (ro_extract (u2 rfl up_h) rfl) rfl <| al_stm (st_alloc qaz24 rfl ml_66) trivial rfl (fun m_68 hm_68 => ?_)
 have mo4_68 := m_push hm_68 ml_66
 simp only [pS, Value.cells, Nat.reduceAdd] at mo4_68
 have mo3_68 := m_push_o hm_68 mo3_66
 have mo2_68 := m_push_o hm_68 mo2_66
 have mo1_68 := m_push_o hm_68 mo1_66
 have mo0_68 := m_push_o hm_68 mo0_66
 have ml_68 := m_push_l hm_68 ml_66
 have ml_68 : _ = 5 := ml_68
 clear hm_68 mo3_66 mo2_66 mo1_66 mo0_66
 refine al_stm (st_alloc qaz28 rfl ml_68) trivial rfl (fun m_69 hm_69 => ?_)
 have mo5_69 := m_push hm_69 ml_68
 simp only [pS, Value.cells, Nat.reduceAdd] at mo5_69
 have mo4_69 := m_push_o hm_69 mo4_68
 have mo3_69 := m_push_o hm_69 mo3_68
 have mo2_69 := m_push_o hm_69 mo2_68
 have mo1_69 := m_push_o hm_69 mo1_68
 have mo0_69 := m_push_o hm_69 mo0_68
 have ml_69 := m_push_l hm_69 ml_68
 have ml_69 : _ = 6 := ml_69
 clear hm_69 mo4_68 mo3_68 mo2_68 mo1_68 mo0_68
 refine al_stm (st_store (up_m rfl up_h) (u4 rfl up_h) rfl rfl mo4_69 qsz24 rfl (nle rfl)) trivial rfl (fun m_70 hm_70 => ?_)
 have mo4_70 := m_set hm_70 mo4_69
 simp only [pS, Value.cells, Nat.reduceAdd] at mo4_70
 have mo5_70 := m_set_o hm_70 mo5_69 (by decide)
 have mo3_70 := m_set_o hm_70 mo3_69 (by decide)
 have mo2_70 := m_set_o hm_70 mo2_69 (by decide)
 have mo1_70 := m_set_o hm_70 mo1_69 (by decide)
 have mo0_70 := m_set_o hm_70 mo0_69 (by decide)
 have ml_70 := m_set_l hm_70 ml_69
 clear hm_70 mo5_69 mo4_69 mo3_69 mo2_69 mo1_69 mo0_69
 refine al_stm (st_store (up_n up_h) (up_n (up_m rfl (u2 rfl up_h))) rfl rfl mo5_70 qsz28 rfl (nle rfl)) trivial rfl (fun m_71 hm_71 => ?_)
 have mo5_71 := m_set hm_71 mo5_70
 simp only [pS, Value.cells, Nat.reduceAdd] at mo5_71
 have mo4_71 := m_set_o hm_71 mo4_70 (by decide)
 have mo3_71 := m_set_o hm_71 mo3_70 (by decide)
 have mo2_71 := m_set_o hm_71 mo2_70 (by decide)
 have mo1_71 := m_set_o hm_71 mo1_70 (by decide)
 have mo0_71 := m_set_o hm_71 mo0_70 (by decide)
 have ml_71 := m_set_l hm_71 ml_70
 clear hm_71 mo4_70 mo5_70 mo3_70 mo2_70 mo1_70 mo0_70
 refine ar (ro_assign (up_n (up_n (u2 rfl up_h)))) rfl <| ae7 (up_m rfl (up_n (up_n (u8 rfl s2_67)))) (up_m rfl (up_n (up_n (u8 rfl s5_67)))) (up_m rfl (up_n (up_n (u8 rfl s6_67)))) (up_m rfl (up_n (up_n (u8 rfl s7_67)))) (up_m rfl (up_n (up_n (up_m rfl up_h)))) (up_m rfl (up_n (up_n up_h))) up_h ?_; clear s1_67 s2_67 s5_67 s6_67 s7_67; intro e_72 s2_72 s5_72 s6_72 s7_72 s8_72 s9_72 s10_72
 refine then_n <| aw_seq <| aw_seq <| at_ <| ar (ro_move s7_72) rfl <| ar (ro_move (up_m rfl s10_72)) rfl <| ar (ro_neq (up_m rfl up_h) up_h) rfl <| ar (ro_move up_h) rfl <| al_case up_h (fun hb_73 hq_73 => ?_) (fun hb_73 hq_73 => ?_)
 ·replace hq_73 := bnt hq_73; exfalso; omega
 replace hq_73 := bnf hq_73
 refine al_ro' (ro_eq (ro_ld_ptr z37_ty28 rfl mo3_71 (u4 rfl s6_72) (nle rfl)) (by simp only [pS, Value.cells, Nat.reduceAdd] <;> rfl)) ⟨_, rfl, hb_73⟩ rfl ?_
 refine al_ro' (ro_eq (ro_ld_ptr z37_ty28 rfl mo5_71 (up_m rfl (u4 rfl s9_72)) (nle rfl)) (by simp only [pS, Value.cells, Nat.reduceAdd] <;> rfl)) ⟨_, rfl, (up_m rfl hb_73)⟩ rfl ?_
 refine al_ro' (ro_sqneq (up_m rfl up_h) up_h rfl rfl z37_gq28 z37_sq28 (by decide)) ⟨_, rfl, (u2 rfl hb_73)⟩ rfl ?_
 refine ar (ro_pickF (up_m rfl (u2 rfl hb_73)) up_h) rfl <| ar (ro_move up_h) rfl <| al_case up_h (fun hb_77 hq_77 => ?_) (fun hb_77 hq_77 => ?_)
 ·replace hq_77 := bt' hq_77
  refine al_skip' ⟨_, rfl, .inl hb_77⟩ rfl ?_
  refine al_skip' ⟨_, rfl, .inl (up_m rfl hb_77)⟩ rfl ?_
  refine al_skip' ⟨_, rfl, .inl (u2 rfl hb_77)⟩ rfl ?_
  refine al_skip' ⟨_, rfl, .inl (up_m rfl (u2 rfl hb_77))⟩ rfl ?_
  refine ar (ro_pickT (u4 rfl hb_77) ev_c) rfl <| ae2 (u2 rfl (u4 rfl (u8 rfl s2_72))) up_h ?_; clear hb_73 hb_77 s10_72 s2_72 s5_72 s6_72 s7_72 s8_72 s9_72; intro e_78 s2_78 s62_78
  refine then_n <| aw_true s62_78 <| aw_seq <| at_ <| ar (ro_assign ev_c) rfl <| ae1 up_h ?_; clear s2_78 s62_78; intro e_80 s4_80
  refine then_n <| aw_ret <| then_r <| ret1 (.inr rfl) (by kernel_rfl) (resV_tmp s4_80) (.ro _ rfl) ?_
  clear s4_80 mo5_71 mo4_71 mo3_71 mo2_71 mo1_71 mo0_71 ml_71
  (first | rfl | (exfalso; omega) | (simp; done) | (exfalso; simp_all; done) | (rw [h9 (by omega)]; simp; done) | (have h8 := h9 (by omega); subst h8; simp_all; done) | (simp_all; done))
 replace hq_77 := bf' hq_77
 refine al_ro' (ro_eq (ro_ld_ptr z37_ty24 rfl mo2_71 (up_m rfl (u8 rfl s5_72)) (nle rfl)) (by simp only [pS, Value.cells, Nat.reduceAdd] <;> rfl)) ⟨_, rfl, hb_77⟩ rfl ?_
 refine al_ro' (ro_eq (ro_ld_ptr z37_ty24 rfl mo4_71 (u2 rfl (u8 rfl s8_72)) (nle rfl)) (by simp only [pS, Value.cells, Nat.reduceAdd] <;> rfl)) ⟨_, rfl, (up_m rfl hb_77)⟩ rfl ?_
 refine al_ro' (ro_call (evL_cons (up_m rfl up_h) (evL_cons up_h evL_nil)) rfl (hX) z37_hcf11) ⟨_, rfl, (u2 rfl hb_77)⟩ rfl ?_
 refine al_ro' (ro_not up_h) ⟨_, rfl, (up_m rfl (u2 rfl hb_77))⟩ rfl ?_
 refine ar (ro_pickF (u4 rfl hb_77) up_h) rfl <| ae2 (u2 rfl (u4 rfl (u8 rfl s2_72))) up_h ?_; clear hb_73 hb_77 s10_72 s2_72 s5_72 s6_72 s7_72 s8_72 s9_72; intro e_81 s2_81 s62_81
 refine then_n <| aw_case s62_81 (fun hq_82 => ?_) (fun hq_82 => ?_)
 ·replace hq_82 := bt' hq_82; cases hq_82
 replace hq_82 := bf' hq_82
 refine aw_skip <| then_n <| aw_seq <| at_ <| ar (ro_eq (ro_ld_ptr z37_ty24 rfl mo1_71 s2_81 (nle rfl)) (by simp only [pS, Value.cells, Nat.reduceAdd] <;> rfl)) rfl ?_
 refine ar (ro_call (evL_cons up_h evL_nil) rfl (hC (by omega)) z37_hcf13) rfl ?_
 refine ar (ro_callG (evL_cons up_h evL_nil) rfl mo0_71 (hK (by omega) (by omega)) z37_hcf12) rfl ?_
 refine ar (ro_move up_h) rfl <| ar (ro_extract up_h rfl) rfl <| ar (ro_extract (up_m rfl up_h) rfl) rfl <| ar (ro_assign (up_m rfl up_h)) rfl <| ar (ro_assign (up_m rfl up_h)) rfl <| ae3 (u8 rfl s2_81) (up_m rfl up_h) up_h ?_; clear s2_81 s62_81; intro e_84 s2_84 s11_84 s12_84
 refine then_n <| aw_seq <| aw_seq <| at_ <| ar (ro_eq (ro_ld_ptr z37_ty24 rfl mo1_71 s2_84 (nle rfl)) (by simp only [pS, Value.cells, Nat.reduceAdd] <;> rfl)) rfl ?_
 refine ar (ro_call (evL_cons up_h evL_nil) rfl (hT (by omega) (by omega)) z37_hcf14) rfl ?_
 refine ar (ro_assign up_h) rfl <| ae4 (up_m rfl (u2 rfl s2_84)) (up_m rfl (u2 rfl s11_84)) (up_m rfl (u2 rfl s12_84)) up_h ?_; clear s11_84 s12_84 s2_84; intro e_85 s2_85 s11_85 s12_85 s13_85
 refine then_n <| aw_seq <| at_ <| ar (ro_move s13_85) rfl <| ar (ro_neq up_h ev_c) rfl <| ae5 (u2 rfl s2_85) (u2 rfl s11_85) (u2 rfl s12_85) (u2 rfl s13_85) up_h ?_; clear s11_85 s12_85 s13_85 s2_85; intro e_86 s2_86 s11_86 s12_86 s13_86 s72_86
 refine then_n <| aw_case s72_86 (fun hq_87 => ?_) (fun hq_87 => ?_)
 ·replace hq_87 := bnt hq_87
  refine aw_seq <| at_ <| ar (ro_move s12_86) rfl <| ar (ro_move (up_m rfl s13_86)) rfl <| ar (ro_eql (up_m rfl up_h) up_h) rfl ?_
  refine ar (ro_move up_h) rfl <| al_case up_h (fun hb_88 hq_88 => ?_) (fun hb_88 hq_88 => ?_)
  ·replace hq_88 := bt hq_88
   refine al_ro' (ro_move (u4 rfl s11_86)) ⟨_, rfl, hb_88⟩ rfl ?_
   refine al_ro' (ro_seql up_h ev_c) ⟨_, rfl, (up_m rfl hb_88)⟩ rfl ?_
   refine ar (ro_pickT (u2 rfl hb_88) up_h) rfl <| ar (ro_assign up_h) rfl <| ae1 up_h ?_; clear hb_88 s11_86 s12_86 s13_86 s2_86 s72_86; intro e_89 s4_89
   refine then_n <| aw_ret <| then_r <| ret1 (.inr rfl) (by kernel_rfl) (resV_tmp s4_89) (.ro _ rfl) ?_
   clear s4_89 mo5_71 mo4_71 mo3_71 mo2_71 mo1_71 mo0_71 ml_71
   (first | rfl | (exfalso; omega) | (simp; done) | (exfalso; simp_all; done) | (rw [h9 (by omega)]; simp; done) | (have h8 := h9 (by omega); subst h8; simp_all; done) | (simp_all; done))
  ·replace hq_88 := bf hq_88; exfalso; omega
 replace hq_87 := bnf hq_87
 refine aw_skip <| then_n <| aw_seq <| at_ <| ar (ro_move s11_86) rfl <| ar (ro_callG (evL_cons up_h evL_nil) rfl mo0_71 ((h0 (by omega)).1) z37_hcf9) rfl ?_
 refine ar (ro_move up_h) rfl <| ar (ro_extract up_h rfl) rfl <| ar (ro_extract (up_m rfl up_h) rfl) rfl <| ar (ro_extract (u2 rfl up_h) rfl) rfl <| al_stm (st_alloc qaz24 rfl ml_71) trivial rfl (fun m_91 hm_91 => ?_)
 have mo6_91 := m_push hm_91 ml_71
 simp only [pS, Value.cells, Nat.reduceAdd] at mo6_91
 have mo5_91 := m_push_o hm_91 mo5_71
 have mo4_91 := m_push_o hm_91 mo4_71
 have mo3_91 := m_push_o hm_91 mo3_71
 have mo2_91 := m_push_o hm_91 mo2_71
 have mo1_91 := m_push_o hm_91 mo1_71
 have mo0_91 := m_push_o hm_91 mo0_71
 have ml_91 := m_push_l hm_91 ml_71
 have ml_91 : _ = 7 := ml_91
 clear hm_91 mo5_71 mo4_71 mo3_71 mo2_71 mo1_71 mo0_71
 refine al_stm (st_alloc qaz28 rfl ml_91) trivial rfl (fun m_92 hm_92 => ?_)
 have mo7_92 := m_push hm_92 ml_91
 simp only [pS, Value.cells, Nat.reduceAdd] at mo7_92
 have mo6_92 := m_push_o hm_92 mo6_91
 have mo5_92 := m_push_o hm_92 mo5_91
 have mo4_92 := m_push_o hm_92 mo4_91
 have mo3_92 := m_push_o hm_92 mo3_91
 have mo2_92 := m_push_o hm_92 mo2_91
 have mo1_92 := m_push_o hm_92 mo1_91
 have mo0_92 := m_push_o hm_92 mo0_91
 have ml_92 := m_push_l hm_92 ml_91
 have ml_92 : _ = 8 := ml_92
 clear hm_92 mo6_91 mo5_91 mo4_91 mo3_91 mo2_91 mo1_91 mo0_91
 refine al_stm (st_store (up_m rfl up_h) (u4 rfl up_h) rfl rfl mo6_92 qsz24 rfl (nle rfl)) trivial rfl (fun m_93 hm_93 => ?_)
 have mo6_93 := m_set hm_93 mo6_92
 simp only [pS, Value.cells, Nat.reduceAdd] at mo6_93
 have mo7_93 := m_set_o hm_93 mo7_92 (by decide)
 have mo5_93 := m_set_o hm_93 mo5_92 (by decide)
 have mo4_93 := m_set_o hm_93 mo4_92 (by decide)
 have mo3_93 := m_set_o hm_93 mo3_92 (by decide)
 have mo2_93 := m_set_o hm_93 mo2_92 (by decide)
 have mo1_93 := m_set_o hm_93 mo1_92 (by decide)
 have mo0_93 := m_set_o hm_93 mo0_92 (by decide)
 have ml_93 := m_set_l hm_93 ml_92
 clear hm_93 mo7_92 mo6_92 mo5_92 mo4_92 mo3_92 mo2_92 mo1_92 mo0_92
 refine al_stm (st_store (up_n up_h) (up_n (up_m rfl (u2 rfl up_h))) rfl rfl mo7_93 qsz28 rfl (nle rfl)) trivial rfl (fun m_94 hm_94 => ?_)
 have mo7_94 := m_set hm_94 mo7_93
 simp only [pS, Value.cells, Nat.reduceAdd] at mo7_94
 have mo6_94 := m_set_o hm_94 mo6_93 (by decide)
 have mo5_94 := m_set_o hm_94 mo5_93 (by decide)
 have mo4_94 := m_set_o hm_94 mo4_93 (by decide)
 have mo3_94 := m_set_o hm_94 mo3_93 (by decide)
 have mo2_94 := m_set_o hm_94 mo2_93 (by decide)
 have mo1_94 := m_set_o hm_94 mo1_93 (by decide)
 have mo0_94 := m_set_o hm_94 mo0_93 (by decide)
 have ml_94 := m_set_l hm_94 ml_93
 clear hm_94 mo6_93 mo7_93 mo5_93 mo4_93 mo3_93 mo2_93 mo1_93 mo0_93
 refine ar (ro_assign (up_n (up_n (u2 rfl up_h)))) rfl <| ae6 (up_m rfl (up_n (up_n (u8 rfl s2_86)))) (up_m rfl (up_n (up_n (u8 rfl s11_86)))) (up_m rfl (up_n (up_n (u8 rfl s12_86)))) (up_m rfl (up_n (up_n (up_m rfl up_h)))) (up_m rfl (up_n (up_n up_h))) up_h ?_; clear s11_86 s12_86 s13_86 s2_86 s72_86; intro e_95 s2_95 s11_95 s12_95 s14_95 s15_95 s16_95
 refine then_n <| aw_seq <| at_ <| ar (ro_move s12_95) rfl <| ar (ro_eql up_h ev_c) rfl ?_
 refine ar (ro_move up_h) rfl <| al_case up_h (fun hb_96 hq_96 => ?_) (fun hb_96 hq_96 => ?_)
 ·replace hq_96 := bt hq_96
  refine al_ro' (ro_move (up_m rfl (u2 rfl s11_95))) ⟨_, rfl, hb_96⟩ rfl ?_
  refine al_ro' (ro_eq (ro_ld_ptr z37_ty24 rfl mo1_94 (u4 rfl s2_95) (nle rfl)) (by simp only [pS, Value.cells, Nat.reduceAdd] <;> rfl)) ⟨_, rfl, (up_m rfl hb_96)⟩ rfl ?_
  refine al_ro' (ro_call (evL_cons up_h evL_nil) rfl ((h0 (by omega)).2.1) z37_hcf15) ⟨_, rfl, (u2 rfl hb_96)⟩ rfl ?_
  refine al_ro' (ro_seql (u2 rfl up_h) up_h) ⟨_, rfl, (up_m rfl (u2 rfl hb_96))⟩ rfl ?_
  refine ar (ro_pickT (u4 rfl hb_96) up_h) rfl <| ar (ro_move up_h) rfl <| al_case up_h (fun hb_97 hq_97 => ?_) (fun hb_97 hq_97 => ?_)
  ·skip
   refine al_ro' (ro_move (up_m rfl (u8 rfl s16_95))) ⟨_, rfl, hb_97⟩ rfl ?_
   refine al_ro' (ro_eql up_h ev_c) ⟨_, rfl, (up_m rfl hb_97)⟩ rfl ?_
   refine ar (ro_pickT (u2 rfl hb_97) up_h) rfl <| ar (ro_move up_h) rfl <| al_case up_h (fun hb_98 hq_98 => ?_) (fun hb_98 hq_98 => ?_)
   ·replace hq_98 := bt hq_98
    refine al_ro' (ro_eq (ro_ld_ptr z37_ty28 rfl mo7_94 (up_m rfl (u4 rfl (u8 rfl s15_95))) (nle rfl)) (by simp only [pS, Value.cells, Nat.reduceAdd] <;> rfl)) ⟨_, rfl, hb_98⟩ rfl ?_
    refine al_ro' (ro_build evP_nil qbz28 qbu28 qbp28 rfl) ⟨_, rfl, (up_m rfl hb_98)⟩ rfl ?_
    refine al_ro' (ro_sqeql (up_m rfl up_h) up_h rfl rfl z37_gq28 z37_sq28 (by decide)) ⟨_, rfl, (u2 rfl hb_98)⟩ rfl ?_
    refine ar (ro_pickT (up_m rfl (u2 rfl hb_98)) up_h) rfl <| ar (ro_move up_h) rfl <| al_case up_h (fun hb_99 hq_99 => ?_) (fun hb_99 hq_99 => ?_)
    ·skip
     refine al_ro' (ro_eq (ro_ld_ptr z37_ty24 rfl mo6_94 (u2 rfl (u16 rfl s14_95)) (nle rfl)) (by simp only [pS, Value.cells, Nat.reduceAdd] <;> rfl)) ⟨_, rfl, hb_99⟩ rfl ?_
     refine al_ro' (ro_eq (ro_ld_ptr z37_ty24 rfl mo1_94 (up_m rfl (u2 rfl (u16 rfl s2_95))) (nle rfl)) (by simp only [pS, Value.cells, Nat.reduceAdd] <;> rfl)) ⟨_, rfl, (up_m rfl hb_99)⟩ rfl ?_
     refine al_ro' (ro_call (evL_cons (up_m rfl up_h) (evL_cons up_h evL_nil)) rfl ((h0 (by omega)).2.2) z37_hcf11) ⟨_, rfl, (u2 rfl hb_99)⟩ rfl ?_
     refine ar (ro_pickT (up_m rfl (u2 rfl hb_99)) up_h) rfl <| ar (ro_assign up_h) rfl <| ae1 up_h ?_; clear hb_96 hb_97 hb_98 hb_99 s11_95 s12_95 s14_95 s15_95 s16_95 s2_95; intro e_100 s4_100
     refine then_n <| aw_ret <| ret1 (.inr rfl) (by kernel_rfl) (resV_tmp s4_100) (.ro _ rfl) ?_
     clear s4_100 mo7_94 mo6_94 mo5_94 mo4_94 mo3_94 mo2_94 mo1_94 mo0_94 ml_94
     (first | rfl | (exfalso; omega) | (simp; done) | (exfalso; simp_all; done) | (rw [h9 (by omega)]; simp; done) | (have h8 := h9 (by omega); subst h8; simp_all; done) | (simp_all; done))
    ·cases hq_99
   ·replace hq_98 := bf hq_98; exfalso; omega
  refine al_skip' ⟨_, rfl, .inl hb_97⟩ rfl ?_
  refine al_skip' ⟨_, rfl, .inl (up_m rfl hb_97)⟩ rfl ?_
  refine ar (ro_pickF (u2 rfl hb_97) ev_c) rfl <| ar (ro_move up_h) rfl <| al_skip' ⟨_, rfl, .inl up_h⟩ rfl ?_
  refine al_skip' ⟨_, rfl, .inl (up_m rfl up_h)⟩ rfl ?_
  refine al_skip' ⟨_, rfl, .inl (u2 rfl up_h)⟩ rfl ?_
  refine ar (ro_pickF (up_m rfl (u2 rfl up_h)) ev_c) rfl <| ar (ro_move up_h) rfl <| al_skip' ⟨_, rfl, .inl up_h⟩ rfl ?_
  refine al_skip' ⟨_, rfl, .inl (up_m rfl up_h)⟩ rfl ?_
  refine al_skip' ⟨_, rfl, .inl (u2 rfl up_h)⟩ rfl ?_
  refine ar (ro_pickF (up_m rfl (u2 rfl up_h)) ev_c) rfl <| ar (ro_assign up_h) rfl <| ae1 up_h ?_; clear hb_96 hb_97 s11_95 s12_95 s14_95 s15_95 s16_95 s2_95; intro e_103 s4_103
  refine then_n <| aw_ret <| ret1 (.inr rfl) (by kernel_rfl) (resV_tmp s4_103) (.ro _ rfl) ?_
  clear s4_103 mo7_94 mo6_94 mo5_94 mo4_94 mo3_94 mo2_94 mo1_94 mo0_94 ml_94
  (first | rfl | (exfalso; omega) | (simp; done) | (exfalso; simp_all; done) | (rw [h9 (by omega)]; simp; done) | (have h8 := h9 (by omega); subst h8; simp_all; done) | (simp_all; done))
 ·replace hq_96 := bf hq_96; exfalso; omega
theorem brakeTexts_ok (nm : ByteArray) (ps : List Piece) (tx : ByteArray) : FnOkG Tryz.prog (gX es er) 3 [trA nm ps, .v (.string tx)] (fun q => q = bA true) :=
 brakeTexts_l es er hes her nm.data.toList ps tx.data.toList
end
end Go.Proofs.YtjhcfpdgldpicaaGreatDoor
