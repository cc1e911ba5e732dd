/- Lemmas for the statement. -/
import Derived.Test.YtjhcfpdgldpicaaA13
import Derived.Test.YtjhcfpdgldpicaaRange
namespace Go.Proofs.Ytjhcfpdgldpicaa
open Go Go.RowKit Go.Proofs
set_option linter.unusedSimpArgs false
set_option linter.unusedVariables false
abbrev JJ := Bool → Nat → List Value → List Ob → World → Prop
def YS (P : Program) (lb : Nat) (pb : Nat → Prop) (w0 : Bs) (ys : List (List AV)) (J : JJ) : Prop :=
 ∀ (i : Nat) (y : List AV) (θ : List Value) (mem : List Ob) (w : World) (ws : List Value), ys[i]? = some y → ws.length = y.length → (∀ (k : Nat) (a : AV) (x : Value), y[k]? = some a → ws[k]? = some x → R0 (Prot pb θ mem) w a x) → SimM pb w0 w θ mem → J true i θ mem w →
  YieldAt Fence.wide 7 P lb ws.toArray w fun en w2 => ∃ (b : Bool) (θ2 : List Value) (mem2 : List Ob), en = .returned (.bool b) ∧ SimM pb w0 w2 θ2 mem2 ∧ (∀ a x, R1 θ (Prot pb θ mem) w a x → R1 θ2 (Prot pb θ2 mem2) w2 a x) ∧ (∀ ds, Mks w0.w.heap.size (Prot pb θ mem) w ds → Mks w0.w.heap.size (Prot pb θ2 mem2) w2 ds) ∧ J b (i + 1) θ2 mem2 w2
def JSt (pb : Nat → Prop) (w0 : Bs) (J : JJ) : Prop := ∀ b i θ mem A B, SimM pb w0 A θ mem → J b i θ mem A → Ext A B → J b i θ mem B
def GenOk (P : Program) (f : FuncId) (l m : List AV) (ys : List (List AV)) : Prop :=
 ∀ (lb : Nat) (pb : Nat → Prop) (w0 : Bs) (θ : List Value) (mem : List Ob) (w : World) (vs us : List Value) (J : JJ), vs.length = l.length → us.length = m.length → (∀ (i : Nat) (a : AV) (x : Value), l[i]? = some a → vs[i]? = some x → R1 θ (Prot pb θ mem) w a x) → (∀ (i : Nat) (a : AV) (x : Value), m[i]? = some a → us[i]? = some x → R1 θ (Prot pb θ mem) w a x) →
  JSt pb w0 J → YS P lb pb w0 ys J → SimM pb w0 w θ mem → J true 0 θ mem w →
  CallsIn Fence.wide 8 P f (vs ++ .func (.yield lb) #[] #[] :: us).toArray w fun en w' => (∃ v, en = .returned v) ∧ ∃ b i θ' mem', SimM pb w0 w' θ' mem' ∧ J b i θ' mem' w' ∧ (b = true → i = ys.length)
def FitI (N : Nat) (pb : Nat → Prop) (w0 : Bs) (e : Nat → AV) (mem : List Ob) (θ : List Value) (a : Act) (w : World) : Prop := Fit N pb w0 e mem θ a w ∧ a.defers = []
theorem put_dfr {a : Act} (d : Option Tmp) (v : Value) (h : a.defers = []) : (a.put d v).defers = [] := by cases d <;> exact h
abbrev IQ := Exit → (Nat → AV) → Bool → Nat → Prop
def LI (N : Nat) (pb : Nat → Prop) (w0 : Bs) (J : JJ) (Q : IQ) : Exit → Act → World → Prop := fun x a w => ∃ e b i θ mem, FitI N pb w0 e mem θ a w ∧ J b i θ mem w ∧ Q x e b i
def IW (lb : Nat) (ys : List (List AV)) (P : Program) (N : Nat) (c : Code) (Q : IQ) (e : Nat → AV) (b : Bool) (i : Nat) : Prop :=
 ∀ pb w0 J, JSt pb w0 J → YS P lb pb w0 ys J → ∀ θ mem a w, FitI N pb w0 e mem θ a w → J b i θ mem w → c.wpIn Fence.wide 8 P (LI N pb w0 J Q) a w
def IL (lb : Nat) (ys : List (List AV)) (P : Program) (N : Nat) (ops : Array Oper) (l : List Oper) (Q : IQ) (e : Nat → AV) (b : Bool) (i : Nat) : Prop :=
 ∀ pb w0 J, JSt pb w0 J → YS P lb pb w0 ys J → ∀ θ mem a w, FitI N pb w0 e mem θ a w → J b i θ mem w → wpListIn Fence.wide 8 P ops (LI N pb w0 J Q) l a w
section
variable {lb : Nat} {ys : List (List AV)} {P : Program} {N : Nat} {Q : IQ} {e : Nat → AV} {b : Bool} {i : Nat}
def ThenI (K : (Nat → AV) → Bool → Nat → Prop) (Q : IQ) : IQ
 | .normal, e, b, i => K e b i
 | x, e, b, i => Q x e b i
theorem iw_seq {x y : Code} (h : IW lb ys P N x (ThenI (IW lb ys P N y Q) Q) e b i) : IW lb ys P N (.seq x y) Q e b i := by
 intro pb w0 J hJ hY θ mem a w hf hj
 refine wpIn_seq (wpIn_mono (h pb w0 J hJ hY θ mem a w hf hj) ?_)
 rintro x a' w' ⟨e', b', i', θ', mem', h1, h2, h3⟩
 cases x with
 | normal => exact h3 pb w0 J hJ hY θ' mem' a' w' h1 h2
 | _ => exact ⟨e', b', i', θ', mem', h1, h2, h3⟩
theorem iw_case {c : Operand} {x y : Code} {t : Bool} (hc : evA e c = .v (.bool t)) (ht : t = true → IW lb ys P N x Q e b i) (hf : t = false → IW lb ys P N y Q e b i) : IW lb ys P N (.cond c x y) Q e b i := by
 intro pb w0 J hJ hY θ mem a w hfit hj
 have hv : a.eval c = .bool t := by
  cases c with
  | tmp s => have := hfit.1.sl s; rw [show e s = .v (.bool t) from hc] at this; exact this.val
  | const v => exact (show v = .bool t by simpa [evA] using hc)
  | global g => cases hc
  | func f => cases hc
 refine wpIn_cond_split hv (fun h => ht h pb w0 J hJ hY θ mem a w hfit hj) (fun h => hf h pb w0 J hJ hY θ mem a w hfit hj)
theorem iw_true {c : Operand} {x y : Code} (hc : evA e c = .v (.bool true)) (h : IW lb ys P N x Q e b i) : IW lb ys P N (.cond c x y) Q e b i := iw_case hc (fun _ => h) (fun h => by cases h)
theorem iw_false {c : Operand} {x y : Code} (hc : evA e c = .v (.bool false)) (h : IW lb ys P N y Q e b i) : IW lb ys P N (.cond c x y) Q e b i := iw_case hc (fun h => by cases h) (fun _ => h)
theorem iw_skip (h : Q .normal e b i) : IW lb ys P N .skip Q e b i := fun _ _ _ _ _ θ mem _ _ hf hj => wpIn_skip ⟨e, b, i, θ, mem, hf, hj, h⟩
theorem iw_exit {id : Nat} (h : Q (.exit id) e b i) : IW lb ys P N (.exit id) Q e b i := fun _ _ _ _ _ θ mem _ _ hf hj => wpIn_exit ⟨e, b, i, θ, mem, hf, hj, h⟩
theorem iw_ret (h : Q .ret e b i) : IW lb ys P N .ret Q e b i := fun _ _ _ _ _ θ mem _ _ hf hj => wpIn_ret ⟨e, b, i, θ, mem, hf, hj, h⟩
def BlockI (id : Nat) (Q : IQ) : IQ
 | .exit k, e, b, i => if k = id then Q .normal e b i else Q (.exit k) e b i
 | x, e, b, i => Q x e b i
theorem iw_block {id : Nat} {c : Code} (h : IW lb ys P N c (BlockI id Q) e b i) : IW lb ys P N (.block id c) Q e b i := by
 intro pb w0 J hJ hY θ mem a w hf hj
 refine wpIn_block (wpIn_mono (h pb w0 J hJ hY θ mem a w hf hj) ?_)
 rintro x a' w' ⟨e', b', i', θ', mem', h1, h2, h3⟩
 cases x with
 | exit k =>
  simp only [BlockI] at h3
  simp only [Exit.inBlock]
  by_cases hi : k = id
  ·rw [if_pos hi] at h3 ⊢; exact ⟨e', b', i', θ', mem', h1, h2, h3⟩
  ·rw [if_neg hi] at h3 ⊢; exact ⟨e', b', i', θ', mem', h1, h2, h3⟩
 | _ => exact ⟨e', b', i', θ', mem', h1, h2, h3⟩
theorem iw_loop {S : Type} {c : Code} (I : S → (Nat → AV) → Bool → Nat → Prop) (μ : S → Nat) (s0 : S) (h0 : I s0 e b i)
 (round : ∀ s e b i, I s e b i → IW lb ys P N c (ThenI (fun e' b' i' => ∃ s', I s' e' b' i' ∧ μ s' < μ s) Q) e b i) : IW lb ys P N (.loop c) Q e b i := by
 intro pb w0 J hJ hY θ mem a w hf hj
 let p : Act → World → Nat → Prop := fun a w n => ∃ s e b i θ mem, FitI N pb w0 e mem θ a w ∧ J b i θ mem w ∧ I s e b i ∧ μ s = n
 refine wpIn_loop (fun a w => ∃ n, p a w n) (fun a w => leastN (p a w)) ⟨_, s0, e, b, i, θ, mem, hf, hj, h0, rfl⟩ ?_
 rintro a w ⟨n, hn⟩
 obtain ⟨⟨s, e, b, i, θ, mem, h1, h2, h3, h4⟩, -⟩ := leastN_spec hn
 refine wpIn_mono (round s e b i h3 pb w0 J hJ hY θ mem a w h1 h2) ?_
 rintro x a' w' ⟨e', b', i', θ', mem', h5, h6, h7⟩
 cases x with
 | normal =>
  obtain ⟨s', h8, h9⟩ := h7
  have hp : p a' w' (μ s') := ⟨s', e', b', i', θ', mem', h5, h6, h8, rfl⟩
  have := (leastN_spec hp).2 _ hp
  exact ⟨⟨_, hp⟩, by omega⟩
 | _ => exact ⟨e', b', i', θ', mem', h5, h6, h7⟩
theorem iw_text {id : Nat} {l : List Oper} (h : IL lb ys P N l.toArray l Q e b i) : IW lb ys P N (.region id l.toArray false) Q e b i := fun pb w0 J hJ hY θ mem a w hf hj => wpIn_region_lit (h pb w0 J hJ hY θ mem a w hf hj)
theorem theni_n {K : (Nat → AV) → Bool → Nat → Prop} (h : K e b i) : ThenI K Q .normal e b i := h
theorem theni_x {K : (Nat → AV) → Bool → Nat → Prop} {id : Nat} (h : Q (.exit id) e b i) : ThenI K Q (.exit id) e b i := h
theorem theni_r {K : (Nat → AV) → Bool → Nat → Prop} (h : Q .ret e b i) : ThenI K Q .ret e b i := h
theorem blocki_n {id : Nat} (h : Q .normal e b i) : BlockI id Q .normal e b i := h
theorem blocki_r {id : Nat} (h : Q .ret e b i) : BlockI id Q .ret e b i := h
theorem blocki_hit {id : Nat} (h : Q .normal e b i) : BlockI id Q (.exit id) e b i := by show (if id = id then _ else _); rw [if_pos rfl]; exact h
theorem opIn_rel {n : Nat} {o : Oper} {a : Act} {w : World} {φ : Value → World → Prop} {K : Act → World → Prop} {R : Exit → Act → World → Prop} (hnd : ∀ c, o.op ≠ .defer c) (hK : ∀ v w', φ v w' → K (a.put o.dst v) w') (h : RelUpon P φ ((execOp a.eval o).run P w)) : o.wpIn Fence.wide n P a w K R := by
 refine ⟨fun f _ => trivial, ?_⟩
 rw [Oper.semAt_eq _ _ _ hnd]
 generalize (execOp a.eval o).run P w = r at *
 cases r with
 | ok x w' =>
  cases x <;> simp only [RelUpon] at h <;> simp only [Oper.uponIn]
  case value v => exact hK _ _ h
  case skip => exact hK _ _ h
  case enter f args => exact ⟨fun hn => (by cases hn), callsIn_wide.2 (h.mono fun e w'' ⟨u, he, hu⟩ => by subst he; exact hK _ _ hu)⟩
 | halt x w' => simp only [RelUpon] at h
def ndB (op : Op) : Bool := match op with | .defer _ => false | _ => true
theorem ndB_ne {op : Op} (h : ndB op = true) : ∀ c, op ≠ .defer c := fun c hc => by rw [hc] at h; cases h
section
variable {ops : Array Oper} {l : List Oper} {d : Option Tmp} {ty : TypeId} {pos : String} {af : Array Edge} {g : Option (Nat × Bool)} {op : Op}
theorem il_ro {r : AV} (ho : ∀ mem, OpRO P ⟨d, op, ty, pos, af, g⟩ e mem r) (hg : Gd ops ⟨d, op, ty, pos, af, g⟩ e) (hd : (dstB N d && ndB op) = true) (h : IL lb ys P N ops l Q (upA e d r) b i) : IL lb ys P N ops (⟨d, op, ty, pos, af, g⟩ :: l) Q e b i := by
 simp only [Bool.and_eq_true] at hd
 intro pb w0 J hJ hY θ mem a w hf hj
 show (if Region.wanted _ (yielded ops a.tmps) then _ else _)
 rw [if_pos (wanted_of hf.1 hg)]
 refine opIn_rel (φ := fun v w' => R1 θ (Prot pb θ mem) w' r v ∧ Ext w w') (ndB_ne hd.2) ?_ ?_
 ·rintro v w' ⟨h1, h2⟩
  exact h pb w0 J hJ hY θ mem _ w' ⟨hf.1.put (Step.ext hf.1.sim h2) hd.1 h1, put_dfr _ _ hf.2⟩ (hJ _ _ _ _ _ _ hf.1.sim hj h2)
 ·rw [evE_of]
  exact ho mem pb w0 θ w _ hf.1.sim fun x _ => ops_of hf.1 x
theorem il_skip (hg : Ng ops ⟨d, op, ty, pos, af, g⟩ e) (hd : dstB N d = true) (h : IL lb ys P N ops l Q (upA e d (.v undef)) b i) : IL lb ys P N ops (⟨d, op, ty, pos, af, g⟩ :: l) Q e b i := by
 intro pb w0 J hJ hY θ mem a w hf hj
 show (if Region.wanted _ (yielded ops a.tmps) then _ else _)
 rw [if_neg (by rw [unwanted_of hf.1 hg]; exact Bool.false_ne_true)]
 exact ⟨fun f _ => trivial, h pb w0 J hJ hY θ mem _ w ⟨hf.1.put (Step.ext hf.1.sim (Ext.refl w)) hd (.ro (.v _)), put_dfr _ _ hf.2⟩ hj⟩
theorem il_case {s : Tmp} {t : Bool} (hb : evA e (.tmp s) = .v (.bool t)) (ht : evA e (.tmp s) = .v (.bool true) → t = true → IL lb ys P N ops l Q e b i) (hf : evA e (.tmp s) = .v (.bool false) → t = false → IL lb ys P N ops l Q e b i) : IL lb ys P N ops l Q e b i := case_b hb ht hf
theorem il_end (h : ∀ e1, e1 = e → Q .normal e1 b i) : IL lb ys P N ops [] Q e b i := fun _ _ _ _ _ θ mem _ _ hf hj => ⟨e, b, i, θ, mem, hf, hj, h e rfl⟩
theorem il_yield {x : Operand} {as : Array Operand} {ts : Array TypeId} {y : List AV} (hx : evA e x = .v (.func (.yield lb) #[] #[])) (hargs : evL e as.toList = y) (hro : roO.roL y = true) (hg : Gd ops ⟨d, .call ⟨.value x, as, ts⟩, ty, pos, af, g⟩ e) (hd : dstB N d = true) (hb : b = true) (hy : ys[i]? = some y)
 (h : ∀ b', IL lb ys P N ops l Q (upA e d (.v (.bool b'))) b' (i + 1)) : IL lb ys P N ops (⟨d, .call ⟨.value x, as, ts⟩, ty, pos, af, g⟩ :: l) Q e b i := by
 subst hb
 intro pb w0 J hJ hY θ mem a w hf hj
 show (if Region.wanted _ (yielded ops a.tmps) then _ else _)
 rw [if_pos (wanted_of hf.1 hg)]
 have hws : (as.toList.map (evE fun t => a.tmps.getD t undef)).length = y.length := by rw [← hargs]; simp [evL]
 obtain ⟨fn, tmps, assign, body, h1, h2⟩ := hY i y θ mem w (as.toList.map (evE fun t => a.tmps.getD t undef)) hy hws (fun k v u ha hv => by
  have ha' := ha
  rw [← hargs, evL, List.getElem?_map] at ha'
  rw [List.getElem?_map] at hv
  cases hq : as.toList[k]? with
  | none => rw [hq] at hv; cases hv
  | some q =>
   rw [hq] at ha' hv
   simp only [Option.map_some, Option.some.injEq] at ha' hv
   subst ha' hv
   exact (ops_of hf.1 q).ro0 (roL_get hro ha)) hf.1.sim hj
 refine ⟨fun f _ => trivial, ?_⟩
 rw [Oper.semAt_eq _ _ _ (fun c hc => by cases hc), evE_of]
 have hxv := ops_of hf.1 x
 rw [hx] at hxv
 rw [ex_call hxv.val rfl]
 have e1 : (do let q ← Deferred.ofValue (.func (.yield lb) #[] #[]) (as.toList.map (evE fun t => a.tmps.getD t undef)).toArray; invoke q.target q.args : Sem Next).run P w = (Instr.yield lb (as.toList.map (evE fun t => a.tmps.getD t undef)).toArray).run P w := by
  simp [Deferred.ofValue, Sem.run_bind, invoke]
 rw [e1, h1]
 refine ⟨fun hn => (by cases hn), h2.mono ?_⟩
 rintro en w2 ⟨b', θ2, mem2, rfl, g1, g2, g3, g4⟩
 refine h b' pb w0 J hJ hY θ2 mem2 _ w2 ?_ g4
 have hf2 : Fit N pb w0 e mem2 θ2 a w2 := ⟨hf.1.size, g3 _ hf.1.dfr, fun t => g2 _ _ (hf.1.sl t), g1⟩
 exact ⟨hf2.put (Step.refl g1) hd (.ro (.v _)), put_dfr _ _ hf.2⟩
end
end
def GenQ (n : Nat) : IQ := fun x _ b i => (x = .normal ∨ x = .ret) ∧ (b = true → i = n)
theorem gen_n {n : Nat} {e : Nat → AV} {b : Bool} {i : Nat} (h : b = true → i = n) : GenQ n .normal e b i := ⟨.inl rfl, h⟩
theorem gen_r {n : Nat} {e : Nat → AV} {b : Bool} {i : Nat} (h : b = true → i = n) : GenQ n .ret e b i := ⟨.inr rfl, h⟩
theorem gen_of {P : Program} {f : FuncId} {fn : Func} {c : Code} {l m : List AV} {ys : List (List AV)} (N : Nat) (hf : P.funcs[f]? = some fn) (hb : fn.body = some c) (hn : fn.ntmps = N) (hN : l.length + 1 + m.length ≤ N) (hres : ∀ tmps w, ∃ v, (results fn tmps).run P w = .ok v w)
 (hA : ∀ lb e, (∀ (t : Nat) (a : AV), (l ++ .v (.func (.yield lb) #[] #[]) :: m)[t]? = some a → evA e (.tmp t) = a) → IW lb ys P N c (GenQ ys.length) e true 0) : GenOk P f l m ys := by
 subst hn
 intro lb pb w0 θ mem w vs us J hvl hul hvr hur hJ hY hs hj
 obtain ⟨as, has⟩ : ∃ as, as = l ++ .v (.func (.yield lb) #[] #[]) :: m := ⟨_, rfl⟩
 obtain ⟨zs, hzs⟩ : ∃ zs, zs = vs ++ .func (.yield lb) #[] #[] :: us := ⟨_, rfl⟩
 have hlen : zs.length = as.length := by rw [has, hzs]; simp [hvl, hul]
 have hasl : as.length = l.length + 1 + m.length := by rw [has]; simp; omega
 have hR : ∀ (t : Nat) (a : AV) (x : Value), as[t]? = some a → zs[t]? = some x → R1 θ (Prot pb θ mem) w a x := by
  intro t a x ha hx
  rw [has] at ha; rw [hzs] at hx
  by_cases h1 : t < l.length
  ·rw [List.getElem?_append_left h1] at ha
   rw [List.getElem?_append_left (by omega)] at hx
   exact hvr t a x ha hx
  ·rw [List.getElem?_append_right (by omega)] at ha
   rw [List.getElem?_append_right (by omega), hvl] at hx
   cases hk : t - l.length with
   | zero => rw [hk] at ha hx; simp at ha hx; subst ha hx; exact .ro (.v _)
   | succ k => rw [hk] at ha hx; exact hur k a x (by simpa using ha) (by simpa using hx)
 rw [← hzs]
 refine callsIn_of_wp hf hb trivial (wpIn_mono (hA lb (fun t => as.getD t (.v undef)) (fun t a ha => by rw [← has] at ha; show as.getD t _ = a; rw [List.getD_eq_getElem?_getD, ha]; rfl) pb w0 J hJ hY θ mem { tmps := zs.toArray ++ Array.replicate (fn.ntmps - zs.toArray.size) undef, defers := [] } w ⟨⟨?_, Mks.nil _ _ _, fun t => ?_, hs⟩, rfl⟩ hj) ?_) rfl
 ·simp; omega
 ·show R1 _ _ _ (as.getD t (.v undef)) ((zs.toArray ++ Array.replicate (fn.ntmps - zs.toArray.size) undef).getD t undef)
  by_cases ht : t < as.length
  ·have e1 : as.getD t (.v undef) = as[t] := by simp [List.getD_eq_getElem?_getD, ht]
   have ht' : t < zs.length := by omega
   have e2 : (zs.toArray ++ Array.replicate (fn.ntmps - zs.toArray.size) undef).getD t undef = zs[t] := by
    rw [Array.getD_eq_getD_getElem?, Array.getElem?_append_left (by simpa using ht')]; simp [ht']
   rw [e1, e2]
   exact hR t _ _ (List.getElem?_eq_getElem ht) (List.getElem?_eq_getElem ht')
  ·have e1 : as.getD t (.v undef) = .v undef := by simp [List.getD_eq_getElem?_getD, List.getElem?_eq_none (Nat.le_of_not_lt ht)]
   have e2 : (zs.toArray ++ Array.replicate (fn.ntmps - zs.toArray.size) undef).getD t undef = undef := by
    rw [Array.getD_eq_getD_getElem?, Array.getElem?_append_right (by simp; omega)]
    by_cases h3 : t - zs.length < fn.ntmps - zs.length
    ·simp [h3]
    ·simp [h3]
   rw [e1, e2]; exact .ro (.v _)
 ·rintro x a w' ⟨e, b, i, θ', mem', hf', hj', hx, hbi⟩
  obtain ⟨v, hv⟩ := hres a.tmps w'
  rcases hx with rfl | rfl
  ·exact ⟨hf'.2, v, hv, ⟨v, rfl⟩, b, i, θ', mem', hf'.1.sim, hj', hbi⟩
  ·exact ⟨hf'.2, v, hv, ⟨v, rfl⟩, b, i, θ', mem', hf'.1.sim, hj', hbi⟩
theorem CalmA.putL {B L : Nat} {w : World} {st : Loop} (o' : Obj) (hB : B ≤ L) (h : w.heap[L]? = some (.loop st)) : CalmA B w (w.putObj L o') :=
 ⟨(Below.refl B w).grown (grownBy_putObj' w L o') (by have := (Array.getElem?_eq_some_iff.1 h).1; omega) (fun k e => by cases e; omega), fun b c t f hk => by
  by_cases e : b = L
  ·subst e; rw [h] at hk; cases hk
  ·exact (World.putObj_heap_other e).trans hk⟩
structure KeepL (pb : Nat → Prop) (L : Nat) (θ : List Value) (mem : List Ob) (w : World) (θ' : List Value) (mem' : List Ob) (w' : World) : Prop where
 keep : ∀ a x, R1 θ (Prot pb θ mem) w a x → R1 θ' (Prot pb θ' mem') w' a x
 sz : w.heap.size ≤ w'.heap.size
 same : ∀ b, b < w.heap.size → ¬ Prot pb θ mem b → b ≠ L → w'.heap[b]? = w.heap[b]?
 np : ∀ b, b < w.heap.size → ¬ Prot pb θ mem b → ¬ Prot pb θ' mem' b
section
variable {pb : Nat → Prop} {L : Nat} {w0 : Bs} {θ θ' θ'' : List Value} {mem mem' mem'' : List Ob} {w w' w'' : World}
theorem KeepL.of (h : Step pb w0 θ mem w θ' mem' w') : KeepL pb L θ mem w θ' mem' w' := ⟨h.keep, h.sz, fun b hb hn _ => h.same b hb hn, h.np⟩
theorem KeepL.trans (h : KeepL pb L θ mem w θ' mem' w') (k : KeepL pb L θ' mem' w' θ'' mem'' w'') : KeepL pb L θ mem w θ'' mem'' w'' :=
 ⟨fun a x hr => k.keep a x (h.keep a x hr), Nat.le_trans h.sz k.sz, fun b hb hn hL => (k.same b (Nat.lt_of_lt_of_le hb h.sz) (h.np b hb hn) hL).trans (h.same b hb hn hL), fun b hb hn => k.np b (Nat.lt_of_lt_of_le hb h.sz) (h.np b hb hn)⟩
theorem KeepL.put {st : Loop} (o' : Obj) (h : w.heap[L]? = some (.loop st)) : KeepL pb L θ mem w θ mem (w.putObj L o') :=
 ⟨fun _ _ hr => hr.calm (CalmA.putL (B := L) o' (Nat.le_refl _) h), by simp, fun _ _ _ hL => World.putObj_heap_other hL, fun _ _ hn => hn⟩
theorem Mks.keepL {B : Nat} {st : Loop} {ds : List Deferred} (h : Mks B (Prot pb θ mem) w ds) (k : KeepL pb L θ mem w θ' mem' w') (hL : w.heap[L]? = some (.loop st)) : Mks B (Prot pb θ' mem') w' ds :=
 ⟨fun d hd => by
  obtain ⟨D, h1, h2, h3, h4, h5⟩ := h.1 d hd
  have hne : D ≠ L := fun e => by rw [e, hL] at h4; cases h4
  exact ⟨D, h1, Nat.lt_of_lt_of_le h2 k.sz, k.np D h2 h3, (k.same D h2 h3 hne).trans h4, h5⟩, h.2⟩
end
def upZ : (Nat → AV) → List (Tmp × AV) → Nat → AV
 | e, [] => e
 | e, (p, a) :: l => upZ (upA e (some p) a) l
theorem upZ_fit {N : Nat} {pr : Nat → Prop} {θ : List Value} {w : World} : ∀ (qs : List (Tmp × AV)) (zs : List (Tmp × Value)) (e : Nat → AV) (ts : Array Value), zs.length = qs.length → (∀ (k : Nat) (p : Tmp) (a : AV), qs[k]? = some (p, a) → p < N ∧ ∃ x, zs[k]? = some (p, x) ∧ R1 θ pr w a x) → ts.size = N → (∀ t, R1 θ pr w (e t) (ts.getD t undef)) →
 (zs.foldl (fun t (q : Tmp × Value) => t.setIfInBounds q.1 q.2) ts).size = N ∧ ∀ t, R1 θ pr w (upZ e qs t) ((zs.foldl (fun t (q : Tmp × Value) => t.setIfInBounds q.1 q.2) ts).getD t undef)
 | [], [], e, ts, _, _, hs, h => ⟨hs, h⟩
 | [], z :: zs, _, _, hl, _, _, _ => by simp at hl
 | q :: qs, [], _, _, hl, _, _, _ => by simp at hl
 | (p, a) :: qs, z :: zs, e, ts, hl, hq, hs, h => by
  obtain ⟨hp, x, hx, hr⟩ := hq 0 p a rfl
  simp at hx
  subst hx
  refine upZ_fit qs zs _ _ (by simpa using hl) (fun k p' a' hk => hq (k + 1) p' a' hk) (by simp [hs]) fun t => ?_
  by_cases ht : t = p
  ·subst ht
   have : (ts.setIfInBounds t x).getD t undef = x := by simp [Array.getD_eq_getD_getElem?, hs, hp]
   rw [this]; simp only [upA, if_true]; exact hr
  ·have : (ts.setIfInBounds p x).getD t undef = ts.getD t undef := by
    rw [Array.getD_eq_getD_getElem?, Array.getElem?_setIfInBounds_ne (fun h => ht h.symm), ← Array.getD_eq_getD_getElem?]
   rw [this]; simp only [upA, if_neg ht]; exact h t
def RndQ (I : Nat → List Ob → Prop) (Q : AQ) (e : Nat → AV) (i : Nat) : AQ
 | .normal, _, m => I (i + 1) m
 | .ret, _, m => Q .ret e m
 | .exit id, _, m => Q (.exit id) e m
 | _, _, _ => False
def FallB (K : (Nat → AV) → List Ob → Prop) : AQ
 | .normal, e, m => K e m
 | _, _, _ => False
theorem aw_range {P : Program} {N : Nat} {Q : AQ} {e : Nat → AV} {mem : List Ob} {g : Operand} {ps : Array Tmp} {assign body : Code} {gf : FuncId} {l m : List AV} {ys : List (List AV)} (hg : evA e g = .clo (.func gf) l m) (gen : GenOk P gf l m ys)
 (eg : ∀ args w, (callFunc gf args).run P w = .ok (.enter gf args) w) (hps : ∀ y ∈ ys, y.length = ps.size) (hN : ∀ p ∈ ps.toList, p < N) (I : Nat → List Ob → Prop) (h0 : I 0 mem)
 (round : ∀ i y m', ys[i]? = some y → I i m' → AW .rnd P N assign (FallB fun e' m'' => AW .rnd P N body (RndQ I Q e i) e' m'') (upZ e (ps.toList.zip y)) m') (done : ∀ m', I ys.length m' → Q .normal e m') : AW .top P N (.rangeFunc g ps assign body) Q e mem := by
 intro F n hF pb w0 θ a w hf
 cases hF
 refine wpIn_rangeFunc ?_
 intro fn hfn
 obtain ⟨rec, hrec⟩ : ∃ rec : LoopState → Option Code → Loop, rec = fun st pe => { state := st, pending := pe, fn, tmps := a.tmps, params := ps, assign, body, defers := w.heap.size } := ⟨_, rfl⟩
 obtain ⟨W1, hW1⟩ : ∃ W1, (w.alloc (.deferred (some []))).alloc (.loop (rec .ready none)) = W1 := ⟨_, rfl⟩
 have hL1 : W1.heap[w.heap.size + 1]? = some (.loop (rec .ready none)) := by
  rw [← hW1]; have := World.alloc_heap_new (w.alloc (.deferred (some []))) (.loop (rec .ready none)); rwa [World.size_alloc] at this
 have hK1 : W1.heap[w.heap.size]? = some (.deferred (some [])) := by
  rw [← hW1]; exact (Below.heap_alloc _ _ _ (by simp)).trans (World.alloc_heap_new w _)
 have hx1 : Ext w W1 := by rw [← hW1]; exact ((Ext.refl w).alloc _).alloc _
 have hw0 := hf.sim.ext.size
 have hnp : ∀ b, w.heap.size ≤ b → ¬ Prot pb θ mem b := by
  rintro b hb (hp | ⟨j, o, v, h1, h2, h3, h4⟩)
  ·have := (hf.sim.low b hp).1; omega
  ·have := ((hf.sim.ob j o v h1 h3).lt h2 h4).2; omega
 have hgv := ops_of hf g
 rw [hg] at hgv
 obtain ⟨xs, us, hge, hxl, hxr, hul, hur⟩ : ∃ xs us : List Value, evE (fun t => a.tmps.getD t undef) g = .func (.func gf) xs.toArray us.toArray ∧ xs.length = l.length ∧ (∀ (i : Nat) (b : AV) (x : Value), l[i]? = some b → xs[i]? = some x → R1 θ (Prot pb θ mem) w b x) ∧ us.length = m.length ∧ (∀ (i : Nat) (b : AV) (x : Value), m[i]? = some b → us[i]? = some x → R1 θ (Prot pb θ mem) w b x) := by
  generalize evE (fun t => a.tmps.getD t undef) g = z at hgv
  cases hgv with
  | ro h => cases h with | clo _ _ _ xs us h1 h2 h3 h4 => exact ⟨xs, us, rfl, h1, fun i b x hb hx => .ro (h2 i b x hb hx), h3, fun i b x hb hx => .ro (h4 i b x hb hx)⟩
  | clo _ _ _ xs us h1 h2 h3 h4 => exact ⟨xs, us, rfl, h1, h2, h3, h4⟩
 refine ⟨w.heap.size + 1, [{ target := .collected w.heap.size, args := #[] }], W1, { target := .fn (.func gf) us.toArray, args := xs.toArray ++ #[.func (.yield (w.heap.size + 1)) #[] #[]] }, W1, gf,
  (xs ++ .func (.yield (w.heap.size + 1)) #[] #[] :: us).toArray, W1, ?_, ?_, fun _ _ => trivial, ?_, fun hd => (by cases hd), ?_⟩
 ·rw [← hW1, hrec]; exact run_enterLoop_outer _ _ _ _ _
 ·have : resolve a.eval (rangeCall g (w.heap.size + 1)) 0 = resolve (evE (fun t => a.tmps.getD t undef)) (rangeCall g (w.heap.size + 1)) 0 := by rw [evE_of]
  rw [this]
  simp only [rangeCall, resolve, hge]
  simp [go_sem, evE, Deferred.ofValue]
 ·simp [invoke, go_sem, eg]
 ·have h8 := gen (w.heap.size + 1) pb w0 θ mem W1 xs us
   (fun b i θ' m' w' => KeepL pb (w.heap.size + 1) θ mem W1 θ' m' w' ∧ w'.heap[w.heap.size]? = some (.deferred (some [])) ∧ ((b = true ∧ w'.heap[w.heap.size + 1]? = some (.loop (rec .ready none)) ∧ I i m') ∨
    (b = false ∧ ∃ c, w'.heap[w.heap.size + 1]? = some (.loop (rec .done (some c))) ∧ ((c = .ret ∧ Q .ret e m') ∨ ∃ id, c = .exit id ∧ Q (.exit id) e m'))))
   hxl hul (fun i b x hb hx => (hxr i b x hb hx).ext hx1) (fun i b x hb hx => (hur i b x hb hx).ext hx1) ?_ ?_ (hf.sim.ext' hx1) ⟨KeepL.of (w0 := w0) (Step.refl (hf.sim.ext' hx1)), hK1, .inl ⟨rfl, hL1, h0⟩⟩
  rotate_left
  ·rintro b i θ' m' A B hs ⟨h1, h2, h3⟩ hx
   refine ⟨h1.trans (KeepL.of (Step.ext hs hx)), ext_block hx h2, ?_⟩
   rcases h3 with ⟨rfl, h3, h4⟩ | ⟨rfl, c, h3, h4⟩
   ·exact .inl ⟨rfl, ext_block hx h3, h4⟩
   ·exact .inr ⟨rfl, c, ext_block hx h3, h4⟩
  ·rintro i y θ1 m1 w1 ws hy hwl hwr hs1 ⟨hk1, hd1, hj1⟩
   obtain ⟨-, hl1, hi1⟩ : True ∧ w1.heap[w.heap.size + 1]? = some (.loop (rec .ready none)) ∧ I i m1 := by
    rcases hj1 with ⟨_, h3, h4⟩ | ⟨h, _⟩
    ·exact ⟨trivial, h3, h4⟩
    ·cases h
   have hsz1 := hk1.sz
   have hlt : w.heap.size + 1 < w1.heap.size := (Array.getElem?_eq_some_iff.1 hl1).1
   have hpl : y.length = ps.size := hps y (List.mem_of_getElem? hy)
   have hyy := run_yield (P := P) (args := ws.toArray) hl1 (by rw [hrec]; simp [hwl, hpl])
   rw [hrec] at hyy
   refine ⟨fn, _, assign, body, hyy, roundIn_of_wpIn hfn ?_⟩
   -- the frame of the round
   have hn1 : ∀ b, w.heap.size ≤ b → b < W1.heap.size → ¬ Prot pb θ1 m1 b := fun b hb hb' => hk1.np b hb' (hnp b hb)
   have hW1s : W1.heap.size = w.heap.size + 2 := by rw [← hW1]; simp
   have hfr : ∀ t, R1 θ1 (Prot pb θ1 m1) w1 (e t) (a.tmps.getD t undef) := fun t => hk1.keep _ _ ((hf.sl t).ext hx1)
   have hup := upZ_fit (N := N) (pr := Prot pb θ1 m1) (θ := θ1) (w := w1) (ps.toList.zip y) (ps.toList.zip ws) e a.tmps (by simp [hwl]) (fun k p b hk => by
    obtain ⟨hk1', hk2'⟩ : ps.toList[k]? = some p ∧ y[k]? = some b := by
     rw [List.getElem?_zip_eq_some] at hk; exact hk
    refine ⟨hN p (List.mem_of_getElem? hk1'), ?_⟩
    have hlk : k < y.length := (List.getElem?_eq_some_iff.1 hk2').1
    have hlw : k < ws.length := by omega
    refine ⟨ws[k], by rw [List.getElem?_zip_eq_some]; exact ⟨hk1', List.getElem?_eq_getElem hlw⟩, .ro (hwr k b _ hk2' (List.getElem?_eq_getElem hlw))⟩) hf.size hfr
   have hzip : (ps.zip ws.toArray).foldl (fun t (q : Tmp × Value) => t.setIfInBounds q.1 q.2) a.tmps = (ps.toList.zip ws).foldl (fun t (q : Tmp × Value) => t.setIfInBounds q.1 q.2) a.tmps := by
    rw [← Array.foldl_toList]; simp
   have hfit1 : Fit N pb w0 (upZ e (ps.toList.zip y)) m1 θ1 { tmps := (ps.zip ws.toArray).foldl (fun t (q : Tmp × Value) => t.setIfInBounds q.1 q.2) a.tmps, defers := [] } w1 := by
    refine ⟨?_, Mks.nil _ _ _, ?_, hs1⟩
    ·show ((ps.zip ws.toArray).foldl _ a.tmps).size = N
     rw [hzip]; exact hup.1
    ·intro t
     show R1 _ _ _ _ (((ps.zip ws.toArray).foldl _ a.tmps).getD t undef)
     rw [hzip]; exact hup.2 t
   refine wpIn_mono (round i y m1 hy hi1 (Fence.wide.inRound (w.heap.size + 1)) 7 ⟨_, rfl⟩ pb w0 θ1 _ w1 hfit1) ?_
   rintro x1 a1 w1' ⟨e1, m2, θ2, hf1, hst1, hq1⟩
   cases x1 with
   | normal =>
    have hq1 : AW .rnd P N body (RndQ I Q e i) e1 m2 := hq1
    have hl1' : w1'.heap[w.heap.size + 1]? = some (.loop (rec .ready none)) := (hst1.same _ hlt (hn1 _ (by omega) (by omega))).trans hl1
    have hd1' : w1'.heap[w.heap.size]? = some (.deferred (some [])) := (hst1.same _ (by omega) (hn1 _ (by omega) (by omega))).trans hd1
    have hn2 : ∀ b, w.heap.size ≤ b → b < W1.heap.size → ¬ Prot pb θ2 m2 b := fun b hb hb' => hst1.np b (by omega) (hn1 b hb hb')
    refine ⟨_, run_beginRound hl1' (by rw [hrec]), ?_⟩
    obtain ⟨wb, hwb⟩ : ∃ wb, wb = w1'.putObj (w.heap.size + 1) (.loop { rec .ready none with state := .busy }) := ⟨_, rfl⟩
    rw [← hwb]
    have hlt' : w.heap.size + 1 < w1'.heap.size := (Array.getElem?_eq_some_iff.1 hl1').1
    have hlb : wb.heap[w.heap.size + 1]? = some (.loop { rec .ready none with state := .busy }) := by rw [hwb]; exact World.putObj_heap_same hlt'
    have hdb : wb.heap[w.heap.size]? = some (.deferred (some [])) := by rw [hwb]; exact (World.putObj_heap_other (by omega)).trans hd1'
    have hcb : CalmA w0.w.heap.size w1' wb := by rw [hwb]; exact CalmA.putL _ (by omega) hl1'
    have hkb : KeepL pb (w.heap.size + 1) θ2 m2 w1' θ2 m2 wb := by rw [hwb]; exact KeepL.put _ hl1'
    have hszb : wb.heap.size = w1'.heap.size := by rw [hwb]; simp
    have hfb : Fit N pb w0 e1 m2 θ2 a1 wb := ⟨hf1.size, hf1.dfr.keepL hkb hl1', fun t => (hf1.sl t).calm hcb, hf1.sim.calm hcb⟩
    refine wpIn_mono (hq1 (Fence.wide.inRound (w.heap.size + 1)) 7 ⟨_, rfl⟩ pb w0 θ2 a1 wb hfb) ?_
    rintro x3 a3 w3 ⟨e3, m3, θ3, hf3, hst3, hq3⟩
    have hl3 : w3.heap[w.heap.size + 1]? = some (.loop { rec .ready none with state := .busy }) := (hst3.same _ (by omega) (hn2 _ (by omega) (by omega))).trans hlb
    have hd3 : w3.heap[w.heap.size]? = some (.deferred (some [])) := (hst3.same _ (by omega) (hn2 _ (by omega) (by omega))).trans hdb
    have fin : ∀ (jump : Option Code), ((jump = none ∧ I (i + 1) m3) ∨ ∃ c, jump = some c ∧ ((c = .ret ∧ Q .ret e m3) ∨ ∃ id, c = .exit id ∧ Q (.exit id) e m3)) → ∃ v w4, (Instr.endRound (w.heap.size + 1) jump).run P w3 = .ok v w4 ∧ ∃ (b : Bool) (θ4 : List Value) (m4 : List Ob), Ending.returned v = .returned (.bool b) ∧ SimM pb w0 w4 θ4 m4 ∧ (∀ a x, R1 θ1 (Prot pb θ1 m1) w1 a x → R1 θ4 (Prot pb θ4 m4) w4 a x) ∧
     (∀ ds, Mks w0.w.heap.size (Prot pb θ1 m1) w1 ds → Mks w0.w.heap.size (Prot pb θ4 m4) w4 ds) ∧ KeepL pb (w.heap.size + 1) θ mem W1 θ4 m4 w4 ∧ w4.heap[w.heap.size]? = some (.deferred (some [])) ∧ ((b = true ∧ w4.heap[w.heap.size + 1]? = some (.loop (rec .ready none)) ∧ I (i + 1) m4) ∨
     (b = false ∧ ∃ c, w4.heap[w.heap.size + 1]? = some (.loop (rec .done (some c))) ∧ ((c = .ret ∧ Q .ret e m4) ∨ ∃ id, c = .exit id ∧ Q (.exit id) e m4))) := by
     intro jump hj
     have hr := run_endRound (P := P) jump hl3
     refine ⟨_, _, hr, jump.isNone, θ3, m3, rfl, ?_⟩
     have hc4 := CalmA.putL (B := w0.w.heap.size) (.loop { ({ rec .ready none with state := .busy } : Loop) with state := if jump.isNone then .ready else .done, pending := jump }) (by omega) hl3
     have hk4 := KeepL.put (pb := pb) (θ := θ3) (mem := m3) (.loop { ({ rec .ready none with state := .busy } : Loop) with state := if jump.isNone then .ready else .done, pending := jump }) hl3
     have hkk : KeepL pb (w.heap.size + 1) θ1 m1 w1 θ3 m3 _ := (((KeepL.of hst1).trans hkb).trans (KeepL.of hst3)).trans hk4
     have hl4 := World.putObj_heap_same (w := w3) (r := w.heap.size + 1) (o := .loop { ({ rec .ready none with state := .busy } : Loop) with state := if jump.isNone then .ready else .done, pending := jump }) (Array.getElem?_eq_some_iff.1 hl3).1
     refine ⟨hf3.sim.calm hc4, hkk.keep, fun ds hm => hm.keepL hkk hl1, hk1.trans hkk, (World.putObj_heap_other (by omega)).trans hd3, ?_⟩
     rcases hj with ⟨rfl, hj⟩ | ⟨c, rfl, hj⟩
     ·exact .inl ⟨rfl, by rw [hl4, hrec]; rfl, hj⟩
     ·exact .inr ⟨rfl, c, by rw [hl4, hrec]; rfl, hj⟩
    cases x3 with
    | normal => exact fin none (.inl ⟨rfl, hq3⟩)
    | ret => exact fin (some .ret) (.inr ⟨_, rfl, .inl ⟨rfl, hq3⟩⟩)
    | exit id => exact fin (some (.exit id)) (.inr ⟨_, rfl, .inr ⟨id, rfl, hq3⟩⟩)
    | goto t => exact hq3.elim
    | panic ch => exact hq3.elim
    | outgrown => exact hq3.elim
   | _ => exact hq1.elim
  ·refine CallsIn.mono ((callsIn_wide (n := n - 1)).2 ((callsIn_wide (n := 8)).1 h8)) ?_
   rintro en w2 ⟨⟨v, rfl⟩, b, i, θ2, m2, hs2, ⟨hk2, hd2, hj2⟩, hbi⟩
   obtain ⟨st, hl2, hst2⟩ : ∃ st : Loop, w2.heap[w.heap.size + 1]? = some (.loop st) ∧ st.state ≠ .busy ∧ st.pending = (if b then none else st.pending) := by
    rcases hj2 with ⟨rfl, h3, _⟩ | ⟨rfl, c, h3, _⟩
    ·exact ⟨_, h3, by rw [hrec]; simp, by rw [hrec]; rfl⟩
    ·exact ⟨_, h3, by rw [hrec]; simp, rfl⟩
   have hW1s : W1.heap.size = w.heap.size + 2 := by rw [← hW1]; simp
   have hsz2 := hk2.sz
   have hr := run_endLoop (P := P) hl2 hst2.1
   have hc4 := CalmA.putL (B := w0.w.heap.size) (.loop { st with state := .exhausted }) (by omega) hl2
   have hk4 := (hk2.trans (KeepL.put (pb := pb) (θ := θ2) (mem := m2) (.loop { st with state := .exhausted }) hl2))
   have hstep : Step pb w0 θ mem w θ2 m2 (w2.putObj (w.heap.size + 1) (.loop { st with state := .exhausted })) :=
    ⟨hs2.calm hc4, fun b x hr => hk4.keep b x (hr.ext hx1), Nat.le_trans hx1.size hk4.sz, fun b hb hn => (hk4.same b (by omega) hn (by omega)).trans (hx1.block b hb), fun b hb hn => hk4.np b (by omega) hn⟩
   have hfe : Fit N pb w0 e m2 θ2 { a with defers := { target := .collected w.heap.size, args := #[] } :: a.defers } (w2.putObj (w.heap.size + 1) (.loop { st with state := .exhausted })) := by
    refine ⟨hf.size, ?_, fun t => hstep.keep _ _ (hf.sl t), hstep.sim⟩
    have hm := hf.dfr.step hstep
    refine ⟨fun d hd => ?_, List.pairwise_cons.2 ⟨fun d hd hcon => ?_, hm.2⟩⟩
    ·rcases List.mem_cons.1 hd with rfl | hd
     ·exact ⟨_, rfl, by simp; omega, hk4.np _ (by omega) (hnp _ (Nat.le_refl _)), (World.putObj_heap_other (by omega)).trans hd2, hw0⟩
     ·exact hm.1 d hd
    ·obtain ⟨D, g1, g2, _⟩ := hf.dfr.1 d hd
     rw [g1] at hcon
     injection hcon with hcon
     omega
   rcases hj2 with ⟨rfl, h3, h4⟩ | ⟨rfl, c, h3, h4⟩
   ·rw [hl2] at h3
    cases h3
    have h5 := hbi rfl
    subst h5
    have hp : (rec .ready none).pending = none := by rw [hrec]
    exact ⟨none, _, hr.trans (congrArg (fun p => Result.ok p _) hp), ⟨e, m2, θ2, hfe, hstep, done m2 h4⟩⟩
   ·rw [hl2] at h3
    cases h3
    have hp : (rec .done (some c)).pending = some c := by rw [hrec]
    refine ⟨some c, _, hr.trans (congrArg (fun p => Result.ok p _) hp), ?_⟩
    rcases h4 with ⟨rfl, h4⟩ | ⟨id, rfl, h4⟩
    ·exact wpIn_ret ⟨e, m2, θ2, hfe, hstep, h4⟩
    ·exact wpIn_exit ⟨e, m2, θ2, hfe, hstep, h4⟩
section
variable {lb : Nat} {ys : List (List AV)} {P : Program} {N : Nat} {Q : IQ} {e : Nat → AV} {b : Bool} {i : Nat} {ops : Array Oper} {l : List Oper} {d : Option Tmp} {ty : TypeId} {pos : String} {af : Array Edge} {g : Option (Nat × Bool)}
theorem il_yield2 {x : Operand} {as : Array Operand} {ts : Array TypeId} {y : List AV} (hx : evA e x = .v (.func (.yield lb) #[] #[])) (hargs : evL e as.toList = y) (hro : roO.roL y = true) (hg : Gd ops ⟨d, .call ⟨.value x, as, ts⟩, ty, pos, af, g⟩ e) (hd : dstB N d = true) (hy : ys[i]? = some y)
 (ht : IL lb ys P N ops l Q (upA e d (.v (.bool true))) true (i + 1)) (hf : IL lb ys P N ops l Q (upA e d (.v (.bool false))) false (i + 1)) : IL lb ys P N ops (⟨d, .call ⟨.value x, as, ts⟩, ty, pos, af, g⟩ :: l) Q e true i :=
 il_yield hx hargs hro hg hd rfl hy fun b' => by cases b' <;> assumption
end
theorem rnd_n {I : Nat → List Ob → Prop} {Q : AQ} {e e' : Nat → AV} {i : Nat} {m : List Ob} (h : I (i + 1) m) : RndQ I Q e i .normal e' m := h
theorem rnd_r {I : Nat → List Ob → Prop} {Q : AQ} {e e' : Nat → AV} {i : Nat} {m : List Ob} (h : Q .ret e m) : RndQ I Q e i .ret e' m := h
theorem fallb_n {K : (Nat → AV) → List Ob → Prop} {e : Nat → AV} {m : List Ob} (h : K e m) : FallB K .normal e m := h
section
variable {P : Program} {N : Nat} {Q : AQ} {e : Nat → AV} {mem : List Ob} {g : Operand} {assign body : Code} {gf : FuncId} {l m : List AV}
theorem aw_range1 {ys : List (List AV)} {p : Tmp} (hg : evA e g = .clo (.func gf) l m) (gen : GenOk P gf l m ys) (eg : ∀ args w, (callFunc gf args).run P w = .ok (.enter gf args) w) (hps : ∀ y ∈ ys, y.length = 1) (hN : p < N) (I : Nat → List Ob → Prop) (h0 : I 0 mem)
 (round : ∀ i a m', ys[i]? = some [a] → I i m' → AW .rnd P N assign (FallB fun e' m'' => AW .rnd P N body (RndQ I Q e i) e' m'') (upA e (some p) a) m') (done : ∀ m', I ys.length m' → Q .normal e m') : AW .top P N (.rangeFunc g #[p] assign body) Q e mem := by
 refine aw_range hg gen eg hps (fun q hq => by simp at hq; subst hq; exact hN) I h0 (fun i y m' hy hI => ?_) done
 have hl := hps y (List.mem_of_getElem? hy)
 match y, hl, hy with
 | [a], _, hy => exact round i a m' hy hI
end
theorem aw_adoptC {M : Mode} {P : Program} {N : Nat} {Q : AQ} {e : Nat → AV} {mem : List Ob} {c : Code} {j m : Nat} {T : TypeId} {cells : List AV} (eT k o : Nat) (hm : mem[j]? = some (.box T cells)) (ho : cells[o]? = some (.v (.slice none 0 0))) (hl : mem.length = m)
 (h : ∀ m0 m1, m0 = mem ++ [.row eT k []] → m1 = m0.set j (.box T (cells.set o (.own m))) → AW M P N c Q e m1) : AW M P N c Q e mem := by
 refine fun F n hF pb w0 θ a w hf => ?_
 subst hl
 have st : Step pb w0 θ mem w (θ ++ [.slice none 0 0]) (mem ++ [.row eT k []]) w := Step.new hf.sim (Ext.refl w) _ _ (fun b hb => by cases hb) fun θ' pr _ =>
  ⟨[], World.ownsRow_nil w _ eT k, (fun b hb => by cases hb), by simp, fun i a u h => by simp at h⟩
 have hjl : j < mem.length := (List.getElem?_eq_some_iff.1 hm).1
 have hm' : (mem ++ [Ob.row eT k []])[j]? = some (.box T cells) := by rw [List.getElem?_append_left hjl]; exact hm
 obtain ⟨v, hv⟩ : ∃ v, (θ ++ [Value.slice none 0 0])[j]? = some v := ⟨_, List.getElem?_eq_getElem (by simp [hf.sim.len]; omega)⟩
 obtain ⟨b', xs, hb1, hb2, hb3, hb4, hb5⟩ := st.sim.ob j _ v hm' hv
 have st2 : Step pb w0 (θ ++ [.slice none 0 0]) (mem ++ [.row eT k []]) w (θ ++ [.slice none 0 0]) ((mem ++ [Ob.row eT k []]).set j (Ob.box T (cells.set o (.own mem.length)))) w :=
  Step.write (o' := Ob.box T (cells.set o (.own mem.length))) st.sim hm' (by simp) hv (Below.refl 0 w) (fun _ _ _ => rfl) fun pr keep => ⟨b', xs, hb1, hb2, hb3, by simpa using hb4, fun i a x ha hx => by
   by_cases hi : o = i
   ·subst hi
    have hlt : o < cells.length := (List.getElem?_eq_some_iff.1 ho).1
    rw [List.getElem?_set_self hlt] at ha
    cases ha
    have := hb5 o _ x ho hx
    rw [this.val]
    exact .own _ _ (by rw [← hf.sim.len]; simp) rfl
   ·rw [List.getElem?_set_ne hi] at ha
    exact keep _ _ (hb5 i a x ha hx)⟩
 have st3 := st.trans st2
 exact wpIn_mono (h _ _ rfl rfl F n hF pb w0 (θ ++ [.slice none 0 0]) a w ⟨hf.size, hf.dfr.step st3, fun t => st3.keep _ _ (hf.sl t), st3.sim⟩) fun _ _ _ hq => hq.after st3
theorem aw_env {M : Mode} {P : Program} {N : Nat} {Q : AQ} {e : Nat → AV} {mem : List Ob} {c : Code} (h : ∀ e1, e1 = e → AW M P N c Q e1 mem) : AW M P N c Q e mem := h e rfl
end Go.Proofs.Ytjhcfpdgldpicaa
