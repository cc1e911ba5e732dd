/- Lemmas for the statement. -/
import Derived.Test.YtjhcfpdgldpicaaGreatDoorA43
namespace Go.Proofs.YtjhcfpdgldpicaaGreatDoor
open Go Go.RowKit Go.Proofs
set_option linter.unusedSimpArgs false
set_option linter.unusedVariables false
def RndV (I : Nat → List Ob → Prop) (Q : AQ) (e : Nat → AV) (i j : Nat) (o : Ob) : AQ
 | .normal, _, m => I (i + 1) m ∧ m[j]? = some o
 | .ret, _, m => Q .ret e m ∧ m[j]? = some o
 | .exit id, _, m => Q (.exit id) e m ∧ m[j]? = some o
 | _, _, _ => False
theorem aw_rangeV {P : Program} {N : Nat} {Q : AQ} {e : Nat → AV} {mem : List Ob} {g : Operand} {ps : Array Tmp} {assign body : Code} {gf : FuncId} {l m : List AV} {ys : List (List AV)} {j : Nat} {T : TypeId} {c0 : List AV} (hg : evA e g = .clo (.func gf) l m) (gen : GenOk2 P gf l m j T c0 ys)
 (eg : ∀ args w, (callFunc gf args).run P w = .ok (.enter gf args) w) (hps : ∀ y ∈ ys, y.length = ps.size) (hN : ∀ p ∈ ps.toList, p < N) (I : Nat → List Ob → Prop) (hI : ∀ i m c c', m[j]? = some (.box T c) → I i m → I i (m.set j (.box T c'))) (hmj : mem[j]? = some (.box T c0)) (h0 : I 0 mem)
 (round : ∀ i y m' c, ys[i]? = some y → I i m' → m'[j]? = some (.box T c) → AW .rnd P N assign (FallB fun e' m'' => AW .rnd P N body (RndV I Q e i j (.box T c)) e' m'') (upZ e (ps.toList.zip y)) m') (done : ∀ m' c, I ys.length m' → m'[j]? = some (.box T c) → Q .normal e m') : AW .top P N (.rangeFunc g ps assign body) Q e mem := by
 intro F n hF pb w0 θ a w hf
 cases hF
 refine wpIn_rangeFunc ?_
 intro fn hfn
 obtain ⟨rec, hrec⟩ : ∃ rec : LoopState → Option Code → Loop, rec = fun st pe => { state := st, pending := pe, fn, tmps := a.tmps, params := ps, assign, body, defers := w.heap.size } := ⟨_, rfl⟩
 obtain ⟨W1, hW1⟩ : ∃ W1, (w.alloc (.deferred (some []))).alloc (.loop (rec .ready none)) = W1 := ⟨_, rfl⟩
 have hL1 : W1.heap[w.heap.size + 1]? = some (.loop (rec .ready none)) := by
  rw [← hW1]; have := World.alloc_heap_new (w.alloc (.deferred (some []))) (.loop (rec .ready none)); rwa [World.size_alloc] at this
 have hK1 : W1.heap[w.heap.size]? = some (.deferred (some [])) := by
  rw [← hW1]; exact (Below.heap_alloc _ _ _ (by simp)).trans (World.alloc_heap_new w _)
 have hx1 : Ext w W1 := by rw [← hW1]; exact ((Ext.refl w).alloc _).alloc _
 have hw0 := hf.sim.ext.size
 have hnp : ∀ b, w.heap.size ≤ b → ¬ Prot pb θ mem b := by
  rintro b hb (hp | ⟨j, o, v, h1, h2, h3, h4⟩)
  ·have := (hf.sim.low b hp).1; omega
  ·have := ((hf.sim.ob j o v h1 h3).lt h2 h4).2; omega
 have hgv := ops_of hf g
 rw [hg] at hgv
 obtain ⟨xs, us, hge, hxl, hxr, hul, hur⟩ : ∃ xs us : List Value, evE (fun t => a.tmps.getD t undef) g = .func (.func gf) xs.toArray us.toArray ∧ xs.length = l.length ∧ (∀ (i : Nat) (b : AV) (x : Value), l[i]? = some b → xs[i]? = some x → R1 θ (Prot pb θ mem) w b x) ∧ us.length = m.length ∧ (∀ (i : Nat) (b : AV) (x : Value), m[i]? = some b → us[i]? = some x → R1 θ (Prot pb θ mem) w b x) := by
  generalize evE (fun t => a.tmps.getD t undef) g = z at hgv
  cases hgv with
  | ro h => cases h with | clo _ _ _ xs us h1 h2 h3 h4 => exact ⟨xs, us, rfl, h1, fun i b x hb hx => .ro (h2 i b x hb hx), h3, fun i b x hb hx => .ro (h4 i b x hb hx)⟩
  | clo _ _ _ xs us h1 h2 h3 h4 => exact ⟨xs, us, rfl, h1, h2, h3, h4⟩
 refine ⟨w.heap.size + 1, [{ target := .collected w.heap.size, args := #[] }], W1, { target := .fn (.func gf) us.toArray, args := xs.toArray ++ #[.func (.yield (w.heap.size + 1)) #[] #[]] }, W1, gf,
  (xs ++ .func (.yield (w.heap.size + 1)) #[] #[] :: us).toArray, W1, ?_, ?_, fun _ _ => trivial, ?_, fun hd => (by cases hd), ?_⟩
 ·rw [← hW1, hrec]; exact run_enterLoop_outer _ _ _ _ _
 ·have : resolve a.eval (rangeCall g (w.heap.size + 1)) 0 = resolve (evE (fun t => a.tmps.getD t undef)) (rangeCall g (w.heap.size + 1)) 0 := by rw [evE_of]
  rw [this]
  simp only [rangeCall, resolve, hge]
  simp [go_sem, evE, Deferred.ofValue]
 ·simp [invoke, go_sem, eg]
 ·have h8 := gen (w.heap.size + 1) pb w0 θ mem W1 xs us
   (fun b i c θ' m' w' => KeepL pb (w.heap.size + 1) θ mem W1 θ' m' w' ∧ w'.heap[w.heap.size]? = some (.deferred (some [])) ∧ ((b = true ∧ w'.heap[w.heap.size + 1]? = some (.loop (rec .ready none)) ∧ I i m') ∨
    (b = false ∧ ∃ c, w'.heap[w.heap.size + 1]? = some (.loop (rec .done (some c))) ∧ ((c = .ret ∧ Q .ret e m') ∨ ∃ id, c = .exit id ∧ Q (.exit id) e m'))))
   (fun _ _ => False)
   hxl hul (fun i b x hb hx => (hxr i b x hb hx).ext hx1) (fun i b x hb hx => (hur i b x hb hx).ext hx1) ?_ ?_ (hf.sim.ext' hx1) hmj ⟨KeepL.of (w0 := w0) (Step.refl (hf.sim.ext' hx1)), hK1, .inl ⟨rfl, hL1, h0⟩⟩
  rotate_left
  ·constructor
   ·rintro b i c θ' m' A B hs ⟨h1, h2, h3⟩ hx
    refine ⟨h1.trans (KeepL.of (Step.ext hs hx)), ext_block hx h2, ?_⟩
    rcases h3 with ⟨rfl, h3, h4⟩ | ⟨rfl, c, h3, h4⟩
    ·exact .inl ⟨rfl, ext_block hx h3, h4⟩
    ·exact .inr ⟨rfl, c, ext_block hx h3, h4⟩
   ·rintro i c c' θ' m' A θ2 B hs hmj' ⟨h1, h2, h3⟩ hst
    have q1 : w.heap.size < A.heap.size := (Array.getElem?_eq_some_iff.1 h2).1
    have hnd : ∀ b, w.heap.size ≤ b → b < W1.heap.size → ¬ Prot pb θ' m' b := fun b hb hb' => h1.np b hb' (hnp b hb)
    have hW1s : W1.heap.size = w.heap.size + 2 := by rw [← hW1]; simp
    refine ⟨h1.trans (KeepL.of hst), (hst.same _ q1 (hnd _ (Nat.le_refl _) (by omega))).trans h2, ?_⟩
    rcases h3 with ⟨-, h3, h4⟩ | ⟨h, _⟩
    ·have q2 : w.heap.size + 1 < A.heap.size := (Array.getElem?_eq_some_iff.1 h3).1
     exact .inl ⟨rfl, (hst.same _ q2 (hnd _ (by omega) (by omega))).trans h3, hI i m' c c' hmj' h4⟩
    ·cases h
  ·rintro i y c θ1 m1 w1 ws hy hwl hwr hs1 hmj1 ⟨hk1, hd1, hj1⟩
   obtain ⟨-, hl1, hi1⟩ : True ∧ w1.heap[w.heap.size + 1]? = some (.loop (rec .ready none)) ∧ I i m1 := by
    rcases hj1 with ⟨_, h3, h4⟩ | ⟨h, _⟩
    ·exact ⟨trivial, h3, h4⟩
    ·cases h
   have hsz1 := hk1.sz
   have hlt : w.heap.size + 1 < w1.heap.size := (Array.getElem?_eq_some_iff.1 hl1).1
   have hpl : y.length = ps.size := hps y (List.mem_of_getElem? hy)
   have hyy := run_yield (P := P) (args := ws.toArray) hl1 (by rw [hrec]; simp [hwl, hpl])
   rw [hrec] at hyy
   refine ⟨fn, _, assign, body, hyy, roundIn_of_wpIn hfn ?_⟩
   -- the frame of the round
   have hn1 : ∀ b, w.heap.size ≤ b → b < W1.heap.size → ¬ Prot pb θ1 m1 b := fun b hb hb' => hk1.np b hb' (hnp b hb)
   have hW1s : W1.heap.size = w.heap.size + 2 := by rw [← hW1]; simp
   have hfr : ∀ t, R1 θ1 (Prot pb θ1 m1) w1 (e t) (a.tmps.getD t undef) := fun t => hk1.keep _ _ ((hf.sl t).ext hx1)
   have hup := upZ_fit (N := N) (pr := Prot pb θ1 m1) (θ := θ1) (w := w1) (ps.toList.zip y) (ps.toList.zip ws) e a.tmps (by simp [hwl]) (fun k p b hk => by
    obtain ⟨hk1', hk2'⟩ : ps.toList[k]? = some p ∧ y[k]? = some b := by
     rw [List.getElem?_zip_eq_some] at hk; exact hk
    refine ⟨hN p (List.mem_of_getElem? hk1'), ?_⟩
    have hlk : k < y.length := (List.getElem?_eq_some_iff.1 hk2').1
    have hlw : k < ws.length := by omega
    refine ⟨ws[k], by rw [List.getElem?_zip_eq_some]; exact ⟨hk1', List.getElem?_eq_getElem hlw⟩, .ro (hwr k b _ hk2' (List.getElem?_eq_getElem hlw))⟩) hf.size hfr
   have hzip : (ps.zip ws.toArray).foldl (fun t (q : Tmp × Value) => t.setIfInBounds q.1 q.2) a.tmps = (ps.toList.zip ws).foldl (fun t (q : Tmp × Value) => t.setIfInBounds q.1 q.2) a.tmps := by
    rw [← Array.foldl_toList]; simp
   have hfit1 : Fit N pb w0 (upZ e (ps.toList.zip y)) m1 θ1 { tmps := (ps.zip ws.toArray).foldl (fun t (q : Tmp × Value) => t.setIfInBounds q.1 q.2) a.tmps, defers := [] } w1 := by
    refine ⟨?_, Mks.nil _ _ _, ?_, hs1⟩
    ·show ((ps.zip ws.toArray).foldl _ a.tmps).size = N
     rw [hzip]; exact hup.1
    ·intro t
     show R1 _ _ _ _ (((ps.zip ws.toArray).foldl _ a.tmps).getD t undef)
     rw [hzip]; exact hup.2 t
   refine wpIn_mono (round i y m1 c hy hi1 hmj1 (Fence.wide.inRound (w.heap.size + 1)) 7 ⟨_, rfl⟩ pb w0 θ1 _ w1 hfit1) ?_
   rintro x1 a1 w1' ⟨e1, m2, θ2, hf1, hst1, hq1⟩
   cases x1 with
   | normal =>
    have hq1 : AW .rnd P N body (RndV I Q e i j (.box T c)) e1 m2 := hq1
    have hl1' : w1'.heap[w.heap.size + 1]? = some (.loop (rec .ready none)) := (hst1.same _ hlt (hn1 _ (by omega) (by omega))).trans hl1
    have hd1' : w1'.heap[w.heap.size]? = some (.deferred (some [])) := (hst1.same _ (by omega) (hn1 _ (by omega) (by omega))).trans hd1
    have hn2 : ∀ b, w.heap.size ≤ b → b < W1.heap.size → ¬ Prot pb θ2 m2 b := fun b hb hb' => hst1.np b (by omega) (hn1 b hb hb')
    refine ⟨_, run_beginRound hl1' (by rw [hrec]), ?_⟩
    obtain ⟨wb, hwb⟩ : ∃ wb, wb = w1'.putObj (w.heap.size + 1) (.loop { rec .ready none with state := .busy }) := ⟨_, rfl⟩
    rw [← hwb]
    have hlt' : w.heap.size + 1 < w1'.heap.size := (Array.getElem?_eq_some_iff.1 hl1').1
    have hlb : wb.heap[w.heap.size + 1]? = some (.loop { rec .ready none with state := .busy }) := by rw [hwb]; exact World.putObj_heap_same hlt'
    have hdb : wb.heap[w.heap.size]? = some (.deferred (some [])) := by rw [hwb]; exact (World.putObj_heap_other (by omega)).trans hd1'
    have hcb : CalmA w0.w.heap.size w1' wb := by rw [hwb]; exact CalmA.putL _ (by omega) hl1'
    have hkb : KeepL pb (w.heap.size + 1) θ2 m2 w1' θ2 m2 wb := by rw [hwb]; exact KeepL.put _ hl1'
    have hszb : wb.heap.size = w1'.heap.size := by rw [hwb]; simp
    have hfb : Fit N pb w0 e1 m2 θ2 a1 wb := ⟨hf1.size, hf1.dfr.keepL hkb hl1', fun t => (hf1.sl t).calm hcb, hf1.sim.calm hcb⟩
    refine wpIn_mono (hq1 (Fence.wide.inRound (w.heap.size + 1)) 7 ⟨_, rfl⟩ pb w0 θ2 a1 wb hfb) ?_
    rintro x3 a3 w3 ⟨e3, m3, θ3, hf3, hst3, hq3⟩
    have hl3 : w3.heap[w.heap.size + 1]? = some (.loop { rec .ready none with state := .busy }) := (hst3.same _ (by omega) (hn2 _ (by omega) (by omega))).trans hlb
    have hd3 : w3.heap[w.heap.size]? = some (.deferred (some [])) := (hst3.same _ (by omega) (hn2 _ (by omega) (by omega))).trans hdb
    have fin : ∀ (jump : Option Code), m3[j]? = some (.box T c) → ((jump = none ∧ I (i + 1) m3) ∨ ∃ c, jump = some c ∧ ((c = .ret ∧ Q .ret e m3) ∨ ∃ id, c = .exit id ∧ Q (.exit id) e m3)) → ∃ v w4, (Instr.endRound (w.heap.size + 1) jump).run P w3 = .ok v w4 ∧ ((∃ (b : Bool) (θ4 : List Value) (m4 : List Ob), Ending.returned v = .returned (.bool b) ∧ SimM pb w0 w4 θ4 m4 ∧ (∀ a x, R1 θ1 (Prot pb θ1 m1) w1 a x → R1 θ4 (Prot pb θ4 m4) w4 a x) ∧ m4[j]? = some (.box T c) ∧
     KeepL pb (w.heap.size + 1) θ mem W1 θ4 m4 w4 ∧ w4.heap[w.heap.size]? = some (.deferred (some [])) ∧ ((b = true ∧ w4.heap[w.heap.size + 1]? = some (.loop (rec .ready none)) ∧ I (i + 1) m4) ∨
     (b = false ∧ ∃ c, w4.heap[w.heap.size + 1]? = some (.loop (rec .done (some c))) ∧ ((c = .ret ∧ Q .ret e m4) ∨ ∃ id, c = .exit id ∧ Q (.exit id) e m4)))) ∨ ∃ ch, Ending.returned v = .panicked ch ∧ (fun (_ : List PanicEntry) (_ : World) => False) ch w4) := by
     intro jump hmj3 hj
     have hr := run_endRound (P := P) jump hl3
     refine ⟨_, _, hr, .inl ⟨jump.isNone, θ3, m3, rfl, ?_⟩⟩
     have hc4 := CalmA.putL (B := w0.w.heap.size) (.loop { ({ rec .ready none with state := .busy } : Loop) with state := if jump.isNone then .ready else .done, pending := jump }) (by omega) hl3
     have hk4 := KeepL.put (pb := pb) (θ := θ3) (mem := m3) (.loop { ({ rec .ready none with state := .busy } : Loop) with state := if jump.isNone then .ready else .done, pending := jump }) hl3
     have hkk : KeepL pb (w.heap.size + 1) θ1 m1 w1 θ3 m3 _ := (((KeepL.of hst1).trans hkb).trans (KeepL.of hst3)).trans hk4
     have hl4 := World.putObj_heap_same (w := w3) (r := w.heap.size + 1) (o := .loop { ({ rec .ready none with state := .busy } : Loop) with state := if jump.isNone then .ready else .done, pending := jump }) (Array.getElem?_eq_some_iff.1 hl3).1
     refine ⟨hf3.sim.calm hc4, hkk.keep, hmj3, hk1.trans hkk, (World.putObj_heap_other (by omega)).trans hd3, ?_⟩
     rcases hj with ⟨rfl, hj⟩ | ⟨c, rfl, hj⟩
     ·exact .inl ⟨rfl, by rw [hl4, hrec]; rfl, hj⟩
     ·exact .inr ⟨rfl, c, by rw [hl4, hrec]; rfl, hj⟩
    cases x3 with
    | normal => exact fin none hq3.2 (.inl ⟨rfl, hq3.1⟩)
    | ret => exact fin (some .ret) hq3.2 (.inr ⟨_, rfl, .inl ⟨rfl, hq3.1⟩⟩)
    | exit id => exact fin (some (.exit id)) hq3.2 (.inr ⟨_, rfl, .inr ⟨id, rfl, hq3.1⟩⟩)
    | goto t => exact hq3.elim
    | panic ch => exact hq3.elim
    | outgrown => exact hq3.elim
   | _ => exact hq1.elim
  ·refine CallsIn.mono ((callsIn_wide (n := n - 1)).2 ((callsIn_wide (n := 8)).1 h8)) ?_
   rintro en w2 (⟨⟨v, rfl⟩, b, i, c2, θ2, m2, hs2, hm2, ⟨hk2, hd2, hj2⟩, hbi⟩ | ⟨_, _, h⟩)
   rotate_left
   ·exact h.elim
   obtain ⟨st, hl2, hst2⟩ : ∃ st : Loop, w2.heap[w.heap.size + 1]? = some (.loop st) ∧ st.state ≠ .busy ∧ st.pending = (if b then none else st.pending) := by
    rcases hj2 with ⟨rfl, h3, _⟩ | ⟨rfl, c, h3, _⟩
    ·exact ⟨_, h3, by rw [hrec]; simp, by rw [hrec]; rfl⟩
    ·exact ⟨_, h3, by rw [hrec]; simp, rfl⟩
   have hW1s : W1.heap.size = w.heap.size + 2 := by rw [← hW1]; simp
   have hsz2 := hk2.sz
   have hr := run_endLoop (P := P) hl2 hst2.1
   have hc4 := CalmA.putL (B := w0.w.heap.size) (.loop { st with state := .exhausted }) (by omega) hl2
   have hk4 := (hk2.trans (KeepL.put (pb := pb) (θ := θ2) (mem := m2) (.loop { st with state := .exhausted }) hl2))
   have hstep : Step pb w0 θ mem w θ2 m2 (w2.putObj (w.heap.size + 1) (.loop { st with state := .exhausted })) :=
    ⟨hs2.calm hc4, fun b x hr => hk4.keep b x (hr.ext hx1), Nat.le_trans hx1.size hk4.sz, fun b hb hn => (hk4.same b (by omega) hn (by omega)).trans (hx1.block b hb), fun b hb hn => hk4.np b (by omega) hn⟩
   have hfe : Fit N pb w0 e m2 θ2 { a with defers := { target := .collected w.heap.size, args := #[] } :: a.defers } (w2.putObj (w.heap.size + 1) (.loop { st with state := .exhausted })) := by
    refine ⟨hf.size, ?_, fun t => hstep.keep _ _ (hf.sl t), hstep.sim⟩
    have hm := hf.dfr.step hstep
    refine ⟨fun d hd => ?_, List.pairwise_cons.2 ⟨fun d hd hcon => ?_, hm.2⟩⟩
    ·rcases List.mem_cons.1 hd with rfl | hd
     ·exact ⟨_, rfl, by simp; omega, hk4.np _ (by omega) (hnp _ (Nat.le_refl _)), (World.putObj_heap_other (by omega)).trans hd2, hw0⟩
     ·exact hm.1 d hd
    ·obtain ⟨D, g1, g2, _⟩ := hf.dfr.1 d hd
     rw [g1] at hcon
     injection hcon with hcon
     omega
   rcases hj2 with ⟨rfl, h3, h4⟩ | ⟨rfl, c, h3, h4⟩
   ·rw [hl2] at h3
    cases h3
    have h5 := hbi rfl
    subst h5
    have hp : (rec .ready none).pending = none := by rw [hrec]
    exact ⟨none, _, hr.trans (congrArg (fun p => Result.ok p _) hp), ⟨e, m2, θ2, hfe, hstep, done m2 c2 h4 hm2⟩⟩
   ·rw [hl2] at h3
    cases h3
    have hp : (rec .done (some c)).pending = some c := by rw [hrec]
    refine ⟨some c, _, hr.trans (congrArg (fun p => Result.ok p _) hp), ?_⟩
    rcases h4 with ⟨rfl, h4⟩ | ⟨id, rfl, h4⟩
    ·exact wpIn_ret ⟨e, m2, θ2, hfe, hstep, h4⟩
    ·exact wpIn_exit ⟨e, m2, θ2, hfe, hstep, h4⟩
section
variable {P : Program} {N : Nat} {Q : AQ} {e : Nat → AV} {mem : List Ob} {g : Operand} {assign body : Code} {gf : FuncId} {l m : List AV} {j : Nat} {T : TypeId} {c0 : List AV}
theorem aw_rangeV1 {ys : List (List AV)} {p : Tmp} (hg : evA e g = .clo (.func gf) l m) (gen : GenOk2 P gf l m j T c0 ys) (eg : ∀ args w, (callFunc gf args).run P w = .ok (.enter gf args) w) (hps : ∀ y ∈ ys, y.length = 1) (hN : p < N) (hmj : mem[j]? = some (.box T c0)) (I : Nat → List Ob → Prop) (hI : ∀ i m c c', m[j]? = some (.box T c) → I i m → I i (m.set j (.box T c'))) (h0 : I 0 mem)
 (round : ∀ i a m' c, ys[i]? = some [a] → I i m' → m'[j]? = some (.box T c) → AW .rnd P N assign (FallB fun e' m'' => AW .rnd P N body (RndV I Q e i j (.box T c)) e' m'') (upA e (some p) a) m') (done : ∀ m' c, I ys.length m' → m'[j]? = some (.box T c) → Q .normal e m') : AW .top P N (.rangeFunc g #[p] assign body) Q e mem := by
 refine aw_rangeV hg gen eg hps (fun q hq => by simp at hq; subst hq; exact hN) I hI hmj h0 (fun i y m' c hy hI hc => ?_) done
 have hl := hps y (List.mem_of_getElem? hy)
 match y, hl, hy with
 | [a], _, hy => exact round i a m' c hy hI hc
end
theorem rndv_n {I : Nat → List Ob → Prop} {Q : AQ} {e e' : Nat → AV} {i j : Nat} {o : Ob} {m : List Ob} (ho : m[j]? = some o) (h : I (i + 1) m) : RndV I Q e i j o .normal e' m := ⟨h, ho⟩
theorem rndv_r {I : Nat → List Ob → Prop} {Q : AQ} {e e' : Nat → AV} {i j : Nat} {o : Ob} {m : List Ob} (ho : m[j]? = some o) (h : Q .ret e m) : RndV I Q e i j o .ret e' m := ⟨h, ho⟩
theorem m_set_l' {m : List Ob} {j n : Nat} {o : Ob} (h : m.length = n) : (m.set j o).length = n := by simpa using h
end Go.Proofs.YtjhcfpdgldpicaaGreatDoor
