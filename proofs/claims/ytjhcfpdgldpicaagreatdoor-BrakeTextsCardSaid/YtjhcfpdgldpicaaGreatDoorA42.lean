/- Lemmas for the statement. -/
import Derived.Test.YtjhcfpdgldpicaaGreatDoorA41
import Derived.Lib.AppendStr
import Derived.Lib.UnsafeStr
namespace Go.Proofs.YtjhcfpdgldpicaaGreatDoor
open Go Go.RowKit
set_option linter.unusedVariables false
set_option linter.unusedSimpArgs false
section
variable {m mem : List Ob} {a b c d e f g : Ob} {l : List Ob}
theorem m_in0 (h : m = a :: l) : m[0]? = some a := by subst h; rfl
theorem m_in1 (h : m = a :: b :: l) : m[1]? = some b := by subst h; rfl
theorem m_in2 (h : m = a :: b :: c :: l) : m[2]? = some c := by subst h; rfl
theorem m_in3 (h : m = a :: b :: c :: d :: l) : m[3]? = some d := by subst h; rfl
theorem lt_nil : ∀ s ∈ ([] : List Nat), s < mem.length := by simp
theorem lt_cons {t : Nat} {ts : List Nat} {o : Ob} (h : mem[t]? = some o) (hr : ∀ s ∈ ts, s < mem.length) : ∀ s ∈ t :: ts, s < mem.length := fun s hs => by
 rcases List.mem_cons.1 hs with rfl | hs
 ·exact (List.getElem?_eq_some_iff.1 h).1
 ·exact hr s hs
theorem m_ups_o {ts : List Nat} {xs : List Ob} {i : Nat} {o : Ob} (h : m = ups ts xs mem) (hl : ts.length ≤ xs.length) (hi : mem[i]? = some o) (hn : i ∉ ts) : m[i]? = some o := by
 subst h; rw [ups_o ts xs mem i hl hn (List.getElem?_eq_some_iff.1 hi).1]; exact hi
theorem m_ups_t {ts : List Nat} {xs : List Ob} {t : Nat} {o : Ob} (h : m = ups ts xs mem) (hl : ts.length ≤ xs.length) (hnd : ts.Nodup) (hlt : ∀ s ∈ ts, s < mem.length) (i : Nat) (ht : ts[i]? = some t) (hx : xs[i]? = some o) : m[t]? = some o := by
 subst h; rw [ups_t ts xs mem i t hl hnd hlt ht]; exact hx
theorem m_ups_n {ts : List Nat} {xs : List Ob} {n : Nat} {o : Ob} (h : m = ups ts xs mem) (hl : ts.length ≤ xs.length) (hn : mem.length = n) (i : Nat) (hx : xs[ts.length + i]? = some o) : m[n + i]? = some o := by
 subst h; subst hn; rw [ups_n ts xs mem i hl]; exact hx
theorem m_ups_l {ts : List Nat} {xs : List Ob} {n : Nat} (h : m = ups ts xs mem) (hn : mem.length = n) (k : Nat) (hx : xs.length = ts.length + k) : m.length = n + k := by
 subst h; subst hn; rw [ups_len ts xs mem (by omega)]; omega
end
section
variable {P : Program} {e : Nat → AV} {mem : List Ob} {fn : Func}
theorem muQ_eq {gs : List (Nat × List AV)} {m0 m1 : List Ob} {x : Exit} {n : Nat} {r q : AV} (hx : x = .normal ∨ x = .ret) (ts : List Nat) (hl : mem.length = n) (hg : mem[0]? = some (.glob gs)) (hnd : ts.Nodup) (hpre : ts.take m0.length = List.range' 1 m0.length) (hr : ResM P fn e mem q) (hE : EmbL (rho ts n) mem ts m1) (hq : q = rn (rho ts n) r) : MuQ P fn gs m0 (fun q m => q = r ∧ m = m1) x e mem := by
 subst hl; subst hq; exact ⟨hx, ts, r, m1, ⟨rfl, rfl⟩, hg, hnd, hpre, hE, hr⟩
theorem emb_ob {ρ : Nat → Nat} {t : Nat} {ts : List Nat} {o p : Ob} {os : List Ob} (h : mem[t]? = some p) (hp : p = o.rn ρ) (hr : EmbL ρ mem ts os) : EmbL ρ mem (t :: ts) (o :: os) := .ob (by rw [h, hp]) hr
end
section
variable {P : Program} {e : Nat → AV} {mem : List Ob} {d : Option Tmp} {ty t : TypeId} {pos : String} {af : Array Edge} {g : Option (Nat × Bool)} {x y : Operand}
theorem st_mu' {n : Nat} {gs : List (Nat × List AV)} {f : FuncId} {as : Array Operand} {tys : Array TypeId} {args : List AV} {m0 m1 : List Ob} {r : AV} (hc : FnMu P gs f args m0 r m1) (ts : List Nat) (hl : mem.length = n) (hargs : evL e as.toList = rn.rnL (rho ts n) args) (hgl : GlOf mem gs) (hnd : ts.Nodup) (hE : EmbL (rho ts n) mem ts m0) (hlv : liveB m0 = true) (hcf : ∀ args w, (callFunc f args).run P w = .ok (.enter f args) w) :
 OpST P ⟨d, .call ⟨.value (.func f), as, tys⟩, ty, pos, af, g⟩ e mem (rn (rho ts n) r) (ups ts (m1.map (Ob.rn (rho ts n))) mem) := st_mu ts hl hargs hc hgl hnd hE hlv hcf
theorem rn_ro {ρ : Nat → Nat} : ∀ {a : AV}, roO a = true → rn ρ a = a := by
 have key : ∀ a : AV, (roO a = true → rn ρ a = a) := by
  intro a
  refine AV.rec (motive_1 := fun a => roO a = true → rn ρ a = a) (motive_2 := fun _ => True) (motive_3 := fun l => roO.roL l = true → rn.rnL ρ l = l) ?_ ?_ ?_ ?_ ?_ ?_ ?_ ?_ ?_ ?_ ?_ ?_ ?_ ?_ a
  ·intro _; rfl
  ·intro _ _; rfl
  ·intro _ _ _ _; rfl
  ·intro _ _ _; rfl
  ·intro l ih h; simp only [rn]; rw [ih (by simpa [roO] using h)]
  ·intro l ih h; simp only [rn]; rw [ih (by simpa [roO] using h)]
  ·intro f l k ih1 ih2 h; simp only [roO, Bool.and_eq_true] at h; simp only [rn]; rw [ih1 h.1, ih2 h.2]
  ·intro _ h; simp [roO] at h
  ·intro _ _ h; simp [roO] at h
  ·intro _; rfl
  ·trivial
  ·intros; trivial
  ·intro _; rfl
  ·intro a l ih1 ih2 h; simp only [roO.roL, Bool.and_eq_true] at h; simp only [rn.rnL]; rw [ih1 h.1, ih2 h.2]
 exact fun {a} => key a
theorem st_muE {o : Oper} {r r' : AV} {mem' : List Ob} (h : OpST P o e mem r mem') (hr : r = r') : OpST P o e mem r' mem' := hr ▸ h
theorem st_muf {n : Nat} {gs : List (Nat × List AV)} {f : FuncId} {as : Array Operand} {tys : Array TypeId} {args : List AV} {m0 m1 : List Ob} {r : AV} (hx : evA e x = .v (.func (.func f) #[] #[])) (hc : FnMu P gs f args m0 r m1) (ts : List Nat) (hl : mem.length = n) (hargs : evL e as.toList = rn.rnL (rho ts n) args) (hgl : GlOf mem gs) (hnd : ts.Nodup) (hE : EmbL (rho ts n) mem ts m0) (hlv : liveB m0 = true) (hcf : ∀ args w, (callFunc f args).run P w = .ok (.enter f args) w) :
 OpST P ⟨d, .call ⟨.value x, as, tys⟩, ty, pos, af, g⟩ e mem (rn (rho ts n) r) (ups ts (m1.map (Ob.rn (rho ts n))) mem) := by
 intro pb w0 θ w ev hs h
 have h1 := h x (by simp [Op.operands, Call.operands])
 rw [hx] at h1
 have h2 := st_mu (d := d) (ty := ty) (pos := pos) (af := af) (g := g) (tys := tys) (as := as) ts hl hargs hc hgl hnd hE hlv hcf pb w0 θ w ev hs (fun y hy => by
  have hy' : y = .func f ∨ y ∈ as := by simpa [Op.operands, Call.operands] using hy
  rcases hy' with rfl | hy'
  ·exact .ro (.v _)
  ·exact h y (by simp [Op.operands, Call.operands, hy']))
 rw [ex_call (f := .func (.func f) #[] #[]) rfl rfl] at h2
 rw [ex_call h1.val rfl]
 exact h2
theorem st_muv {n : Nat} {gs : List (Nat × List AV)} {f : FuncId} {as : Array Operand} {tys : Array TypeId} {l l' k k' args : List AV} {m0 m1 : List Ob} {r : AV} (hx : evA e x = .clo (.func f) l' k') (hc : FnMu P gs f (l ++ args ++ k) m0 r m1) (ts : List Nat) (hl : mem.length = n) (hargs : evL e as.toList = rn.rnL (rho ts n) args) (hgl : GlOf mem gs) (hnd : ts.Nodup) (hE : EmbL (rho ts n) mem ts m0) (hll : l' = rn.rnL (rho ts n) l) (hkk : k' = rn.rnL (rho ts n) k) (hlv : liveB m0 = true) (hcf : ∀ args w, (callFunc f args).run P w = .ok (.enter f args) w) :
 OpST P ⟨d, .call ⟨.value x, as, tys⟩, ty, pos, af, g⟩ e mem (rn (rho ts n) r) (ups ts (m1.map (Ob.rn (rho ts n))) mem) := by
 subst hl
 intro pb w0 θ w ev hs h
 have hlen := congrArg List.length hargs
 rw [rnL_len] at hlen
 have hvs : (as.toList.map (evE ev)).length = args.length := by simpa [evL] using hlen
 obtain ⟨pbc, θ0, hs0, hun, hback⟩ := mu_core hs (hgl.ok hs) hnd hE hlv
 have h1 := h x (by simp [Op.operands, Call.operands])
 rw [hx] at h1
 obtain ⟨xs, ys, hv, q1, q2, q3, q4⟩ : ∃ xs ys : List Value, evE ev x = .func (.func f) xs.toArray ys.toArray ∧ xs.length = l'.length ∧ (∀ (i : Nat) (a : AV) (x : Value), l'[i]? = some a → xs[i]? = some x → R1 θ (Prot pb θ mem) w a x) ∧ ys.length = k'.length ∧ (∀ (i : Nat) (a : AV) (x : Value), k'[i]? = some a → ys[i]? = some x → R1 θ (Prot pb θ mem) w a x) := by
  generalize hq : evE ev x = q at h1
  cases h1 with
  | ro h1 => cases h1 with | clo _ _ _ xs ys p1 p2 p3 p4 => exact ⟨xs, ys, rfl, p1, fun i a x ha hx => .ro (p2 i a x ha hx), p3, fun i a x ha hx => .ro (p4 i a x ha hx)⟩
  | clo _ _ _ xs ys p1 p2 p3 p4 => exact ⟨xs, ys, rfl, p1, p2, p3, p4⟩
 have hl1 : xs.length = l.length := by rw [q1, hll, rnL_len]
 have hk1 : ys.length = k.length := by rw [q3, hkk, rnL_len]
 have un : ∀ {us zs : List AV} {vs : List Value}, us = rn.rnL (rho ts mem.length) zs → (∀ (i : Nat) (a : AV) (x : Value), us[i]? = some a → vs[i]? = some x → R1 θ (Prot pb θ mem) w a x) → ∀ (i : Nat) (a : AV) (x : Value), zs[i]? = some a → vs[i]? = some x → R1 θ0 (Prot pbc θ0 (.glob gs :: m0)) w a x := by
  intro us zs vs e1 hh i a u ha hu
  exact hun a u (hh i _ u (by rw [e1, rnL_get, ha]; rfl) hu)
 rw [ex_call hv rfl]
 have e1 : ((do let q ← Deferred.ofValue (.func (.func f) xs.toArray ys.toArray) (as.toList.map (evE ev)).toArray; invoke q.target q.args : Sem Next).run P w) = (callFunc f (xs.toArray ++ (as.toList.map (evE ev)).toArray ++ ys.toArray)).run P w := rfl
 rw [e1, hcf]
 have e2 : xs.toArray ++ (as.toList.map (evE ev)).toArray ++ ys.toArray = (xs ++ as.toList.map (evE ev) ++ ys).toArray := by simp
 rw [e2]
 have hA : ∀ (i : Nat) (a : AV) (u : Value), args[i]? = some a → (as.toList.map (evE ev))[i]? = some u → R1 θ0 (Prot pbc θ0 (.glob gs :: m0)) w a u := by
  refine un hargs.symm.symm fun i a u ha hu => ?_
  rw [List.getElem?_map] at hu
  rw [evL, List.getElem?_map] at ha
  cases hq : as.toList[i]? with
  | none => rw [hq] at hu; cases hu
  | some z =>
   rw [hq] at ha hu
   simp at ha hu
   subst ha hu
   have hmem : z ∈ as := by have := List.mem_of_getElem? hq; simpa using this
   exact h z (by simp [Op.operands, Call.operands, hmem])
 refine (hc pbc w θ0 _ hs0 (by simp only [List.length_append]; omega) fun i a v ha hv => ?_).mono ?_
 ·rcases Nat.lt_or_ge i (l ++ args).length with h6 | h6
  ·rw [List.getElem?_append_left h6] at ha
   rw [List.getElem?_append_left (by simp only [List.length_append] at h6 ⊢; omega)] at hv
   rcases Nat.lt_or_ge i l.length with h7 | h7
   ·rw [List.getElem?_append_left h7] at ha
    rw [List.getElem?_append_left (by omega)] at hv
    exact un hll q2 i a v ha hv
   ·rw [List.getElem?_append_right h7] at ha
    rw [List.getElem?_append_right (by omega), hl1] at hv
    exact hA _ a v ha hv
  ·rw [List.getElem?_append_right h6] at ha
   rw [List.getElem?_append_right (by simp only [List.length_append] at h6 ⊢; omega)] at hv
   have : (xs ++ as.toList.map (evE ev)).length = (l ++ args).length := by simp only [List.length_append]; omega
   rw [this] at hv
   exact un hkk q4 _ a v ha hv
 ·rintro en w' ⟨r', v, θ', m', h4, h5, h6, ⟨rfl, rfl, rfl⟩ | ⟨_, h7⟩⟩
  ·obtain ⟨θ2, h7, h8⟩ := hback w' θ' m' h6 h5
   exact ⟨v, rfl, θ2, h8 _ _ h4, h7⟩
  ·exact h7.elim
theorem flat_bE : ∀ l : List UInt8, (l.map bE).flatten = l.map (fun b => AV.v (.int .u8 b.toNat))
 | [] => rfl
 | a :: l => by simp [bE, flat_bE l]
theorem strCells_get {s : ByteArray} {i : Nat} {u : Value} (h : (Go.Lib.strCells s)[i]? = some u) : ∃ b, s.data.toList[i]? = some b ∧ u = .int .u8 b.toNat := by
 unfold Go.Lib.strCells at h
 rw [List.getElem?_map] at h
 cases hq : s.data.toList[i]? with
 | none => rw [hq] at h; cases h
 | some b => rw [hq] at h; simp at h; exact ⟨b, rfl, h.symm⟩
theorem own_base {w w' : World} {v : Value} (h : w.grownBy w' v.ownBlock) (hv : isSl v = true) : Below 0 w w' ∧ ∀ b, b < w.heap.size → baseOf v ≠ some b → w'.heap[b]? = w.heap[b]? := by
 have e : v.ownBlock = baseOf v := by
  cases v with
  | slice A n c => cases A <;> rfl
  | _ => cases hv
 rw [e] at h
 exact ⟨(Below.refl 0 _).grown h (Nat.zero_le _) (fun q hq => Nat.zero_le _), fun b hb hne => h.block b hb (fun e => hne e.symm)⟩
theorem nw_appS {eT tS : TypeId} {s : ByteArray} (ht : SlIs P t eT 1 1 (.int .u8 0)) (hu : P.underlying tS = some .string) (hx : evA e x = .v (.slice none 0 0)) (hy : evA e y = .v (.string s)) (hb : s.size ≤ 140737488355328) :
 OpNW P ⟨d, .call ⟨.builtin .append, #[x, y], #[t, tS]⟩, ty, pos, af, g⟩ e mem (.row eT 1 (s.data.toList.map bE)) (fun j => .own j) := by
 obtain ⟨i, hi, hz, hsz, hby⟩ := ht.info
 intro pb w0 θ w ev hs h
 have h1 := h x (by simp [Op.operands, Call.operands])
 have h2 := h y (by simp [Op.operands, Call.operands])
 rw [hx] at h1; rw [hy] at h2
 obtain ⟨v', w', hrun, h9, h10, -⟩ := Go.Lib.run_append_own_string (P := P) w w.heap.size t tS ty eT i ht.1 hu hi hz hsz hby (.slice none 0 0) 0 [] (World.ownsRow_nil w _ eT 1) s (by simp only [maxLen]; omega) (by omega) (Nat.le_refl _)
 rw [ex_builtin (ex_arg h1.val (ex_arg h2.val ex_arg0))]
 have e1 : ∀ cs, (builtin .append #[t, tS] ty cs [.slice none 0 0, .string s].toArray).run P w = .ok (.value v') w' := by
  intro cs; simp only [builtin, Sem.run_bind, hrun, Result.andThen_ok, Sem.run_pure]
 rw [e1]
 have hxx : Ext w w' := (Below.refl _ _).grown h10 (Nat.le_refl _) fun q hq => by cases hq
 refine ⟨hxx, (fun b hb => (own_lt h9 hb).1), fun θ' pr k1 => ?_, fun θ' pr j hj => .own j _ hj (own_nu h9)⟩
 rw [Nat.zero_add, List.nil_append] at h9
 have hl : s.size = (s.data.toList.map bE).length := by rw [List.length_map]; rfl
 rw [hl] at h9
 refine ⟨_, h9.mono_base (Nat.zero_le _), (fun b hb => .inl (Nat.le_trans hs.base (own_lt h9 hb).1)), (fun l hl => by obtain ⟨q, _, rfl⟩ := List.mem_map.1 hl; rfl), fun n a u ha hu => ?_⟩
 rw [flat_bE, List.getElem?_map] at ha
 obtain ⟨b, h3, rfl⟩ := strCells_get hu
 rw [h3] at ha; cases ha; exact .v _
theorem st_appS0 {m : Nat} {eT tS : TypeId} {s : ByteArray} (ht : SlIs P t eT 1 1 (.int .u8 0)) (hu : P.underlying tS = some .string) (hl : mem.length = m) (hx : evA e x = .v (.slice none 0 0)) (hy : evA e y = .v (.string s)) (hb : s.size ≤ 140737488355328) :
 OpST P ⟨d, .call ⟨.builtin .append, #[x, y], #[t, tS]⟩, ty, pos, af, g⟩ e mem (.own m) (mem ++ [.row eT 1 (s.data.toList.map bE)]) := nw_st (h := fun j => .own j) (nw_appS ht hu hx hy hb) hl
theorem sw_appS {j : Nat} {eT tS : TypeId} {els : List (List AV)} {s : ByteArray} (ht : SlIs P t eT 1 1 (.int .u8 0)) (hu : P.underlying tS = some .string) (hm : mem[j]? = some (.row eT 1 els)) (hx : evA e x = .own j) (hy : evA e y = .v (.string s)) (hb : els.length + s.size ≤ 140737488355328) :
 OpSW P ⟨d, .call ⟨.builtin .append, #[x, y], #[t, tS]⟩, ty, pos, af, g⟩ e mem j (.row eT 1 (els ++ s.data.toList.map bE)) (fun j => .own j) := by
 obtain ⟨i, hi, hz, hsz, hby⟩ := ht.info
 intro pb w0 θ w ev hs h
 have h1 := h x (by simp [Op.operands, Call.operands])
 have h2 := h y (by simp [Op.operands, Call.operands])
 rw [hx] at h1; rw [hy] at h2
 generalize hv : evE ev x = v at h1
 have hθ := h1.getOwn
 obtain ⟨xs, h3, hbs, h4, h5⟩ := hs.ob j _ v hm hθ
 obtain ⟨v', w', hrun, h9, h10, -⟩ := Go.Lib.run_append_own_string (P := P) w 0 t tS ty eT i ht.1 hu hi hz hsz hby v els.length xs h3 s (by simp only [maxLen]; omega) hb (Nat.zero_le _)
 obtain ⟨hbel, hoth⟩ := own_base h10 (own_nu h3)
 -- where the row lies now
 have hbase : baseOf v' = baseOf v ∨ ∀ b, baseOf v' = some b → w.heap.size ≤ b := by
  rcases h3.2 with ⟨rfl, h0⟩ | ⟨gg, cap, cur, rfl, _, hh, hcap, hmax, hcs, htake⟩
  ·obtain ⟨v2, w2, hrun2, q1, _, _⟩ := Go.Lib.run_append_own_string (P := P) w w.heap.size t tS ty eT i ht.1 hu hi hz hsz hby (.slice none 0 0) 0 [] (World.ownsRow_nil w _ eT 1) s (by simp only [maxLen]; omega) (by omega) (Nat.le_refl _)
   rw [hrun] at hrun2
   cases hrun2
   exact .inr fun b hb => (own_lt q1 hb).1
  ·by_cases hroom : els.length + s.size ≤ cap
   ·have hr := Go.Lib.run_append_room_string (P := P) w t tS ty eT i ht.1 hu hi hsz gg els.length cap cur hh s hroom (by omega)
    rw [hrun] at hr; cases hr
    exact .inl rfl
   ·have holds : ∀ j u, xs[j]? = some u → w.cell? ((⟨gg, 0, none⟩ : Addr).add j) = some u := h3.cells (g := gg) rfl
    have hr := Go.Lib.run_append_grow_string (P := P) w t tS ty eT i (.int .u8 0) ht.1 hu hi hz ⟨gg, 0, none⟩ els.length cap xs (by rw [hsz]; simpa using h3.1) holds s (by omega) (by omega) (by rw [hby]; exact growslice_fits (by omega) (by omega))
    rw [hrun] at hr; cases hr
    exact .inr fun b hb => by cases hb; exact Nat.le_refl _
 rw [ex_builtin (ex_arg hv (ex_arg h2.val ex_arg0))]
 have e1 : ∀ cs, (builtin .append #[t, tS] ty cs [v, .string s].toArray).run P w = .ok (.value v') w' := by
  intro cs; simp only [builtin, Sem.run_bind, hrun, Result.andThen_ok, Sem.run_pure]
 rw [e1]
 refine ⟨_, _, hm, by simp, hθ, hbel, hoth, hbase, fun θ' pr k1 k0 => ?_, fun θ' pr j hj => .own _ _ hj (own_nu h9)⟩
 have hl : s.size = (s.data.toList.map bE).length := by rw [List.length_map]; rfl
 refine ⟨xs ++ Go.Lib.strCells s, by rw [List.length_append, ← hl]; exact h9, (fun b hb => by
  rcases hbase with h | h
  ·rw [h] at hb; exact hbs b hb
  ·exact .inl (Nat.le_trans hs.base (h b hb))), fun l hl => ?_, fun n a u ha hu => ?_⟩
 ·rcases List.mem_append.1 hl with h | h
  ·exact h4 l h
  ·obtain ⟨q, _, rfl⟩ := List.mem_map.1 h; rfl
 ·rw [List.flatten_append] at ha
  have hfl := flatten_length h4
  have hxl : xs.length = els.length * 1 := h3.1
  rcases Nat.lt_or_ge n els.flatten.length with hn | hn
  ·rw [List.getElem?_append_left hn] at ha
   rw [List.getElem?_append_left (by omega)] at hu
   exact k0 a u (h5 n a u ha hu)
  ·rw [List.getElem?_append_right hn] at ha
   rw [List.getElem?_append_right (by omega)] at hu
   rw [show n - xs.length = n - els.flatten.length by omega] at hu
   rw [flat_bE, List.getElem?_map] at ha
   obtain ⟨b, h3, rfl⟩ := strCells_get hu
   rw [h3] at ha; cases ha; exact .v _
theorem st_appS {j m : Nat} {eT tS : TypeId} {els : List (List AV)} {s : ByteArray} (ht : SlIs P t eT 1 1 (.int .u8 0)) (hu : P.underlying tS = some .string) (hl : mem.length = m) (hm : mem[j]? = some (.row eT 1 els)) (hx : evA e x = .own j) (hy : evA e y = .v (.string s)) (hb : els.length + s.size ≤ 140737488355328) :
 OpST P ⟨d, .call ⟨.builtin .append, #[x, y], #[t, tS]⟩, ty, pos, af, g⟩ e mem (.own m) (mem.set j .gone ++ [.row eT 1 (els ++ s.data.toList.map bE)]) := sw_st (h := fun j => .own j) (sw_appS ht hu hm hx hy hb) hl
theorem ro_usd {j k : Nat} {eT : TypeId} {els : List (List AV)} {ts : Array TypeId} (hx : evA e x = .own j) (hm : mem[j]? = some (.row eT k els)) (hne : 0 < els.length) : OpRO P ⟨d, .call ⟨.builtin .unsafeSliceData, #[x], ts⟩, ty, pos, af, g⟩ e mem (.ptr j 0) := by
 intro pb w0 θ w ev hs h
 have h1 := h x (by simp [Op.operands, Call.operands])
 rw [hx] at h1
 generalize hv : evE ev x = v at h1
 have hθ := h1.getOwn
 obtain ⟨xs, h3, hbs, h4, h5⟩ := hs.ob j _ v hm hθ
 rcases h3.2 with ⟨rfl, h0⟩ | ⟨gg, cap, cur, rfl, _, hh, hcap, hmax, hcs, htake⟩
 ·omega
 ·rw [ex_builtin (ex_arg hv ex_arg0)]
  have hr := Go.Lib.run_unsafeSliceData_row (P := P) (w := w) ts ty ⟨gg, 0, none⟩ els.length cap (by omega)
  have e1 : ∀ cs, (builtin .unsafeSliceData ts ty cs [.slice (some ⟨gg, 0, none⟩) els.length cap].toArray).run P w = .ok (.value (.pointer (some ⟨gg, 0, none⟩))) w := by
   intro cs; simp only [builtin, Sem.run_bind, hr, Result.andThen_ok, Sem.run_pure]
  rw [e1]
  exact ⟨.ptr j 0 gg _ hθ rfl, Ext.refl w⟩
theorem st_ustr {j : Nat} {pt it eT : TypeId} {l : List UInt8} {n : Int} (hp : P.underlying pt = some (.pointer eT)) (hc : P.cellsOf eT = 1) (hx : evA e x = .ptr j 0) (hy : evA e y = .v (.int .i64 n)) (hm : mem[j]? = some (.row eT 1 (l.map bE))) (hn : n = l.length) (hne : 0 < l.length) (hb : l.length ≤ 140737488355328) :
 OpST P ⟨d, .call ⟨.builtin .unsafeString, #[x, y], #[pt, it]⟩, ty, pos, af, g⟩ e mem (.v (.string ⟨l.toArray⟩)) (mem.set j .gone) := by
 subst hn
 intro pb w0 θ w ev hs h
 have h1 := h x (by simp [Op.operands, Call.operands])
 have h2 := h y (by simp [Op.operands, Call.operands])
 rw [hx] at h1; rw [hy] at h2
 obtain ⟨b, v, hθ, hbase, hpv⟩ := h1.getPtr
 obtain ⟨xs, h3, hbs, h4, h5⟩ := hs.ob j _ v hm hθ
 have hxl : xs.length = l.length := by have := h3.1; simpa using this
 rcases h3.2 with ⟨rfl, h0⟩ | ⟨gg, cap, cur, rfl, _, hh, hcap, hmax, hcs, htake⟩
 ·cases hbase
 ·cases hbase
  have hcells := h3.cells (g := gg) rfl
  have hr := Go.Lib.run_unsafeString_row (P := P) (w := w) pt it ty eT hp hc gg cur.size (by simp [World.shape?, hh]) l (List.length_pos_iff.1 hne) (by simp at hcap; omega) (by omega) (fun q u hq => by
   have hql : q < xs.length := by rw [hxl]; exact (List.getElem?_eq_some_iff.1 hq).1
   have h6 := h5 q (.v (.int .u8 u.toNat)) xs[q] (by rw [flat_bE, List.getElem?_map, hq]; rfl) (List.getElem?_eq_getElem hql)
   have h7 : xs[q] = .int .u8 u.toNat := R1.val (θ := θ) (.ro h6)
   rw [← h7]
   exact hcells q _ (List.getElem?_eq_getElem hql))
  rw [ex_builtin (ex_arg hpv (ex_arg h2.val ex_arg0))]
  have e1 : ∀ cs, (builtin .unsafeString #[pt, it] ty cs [.pointer (some ⟨gg, 0, none⟩), .int .i64 l.length].toArray).run P w = .ok (.value (.string ⟨l.toArray⟩)) (w.freeze ⟨gg, 0, none⟩ l.length) := by
   intro cs; simp only [builtin, Sem.run_bind, hr, Result.andThen_ok, Sem.run_pure]
  rw [e1]
  have hfz : ∀ b, b ≠ gg → (w.freeze ⟨gg, 0, none⟩ l.length).heap[b]? = w.heap[b]? := fun b hb => by
   unfold World.freeze
   rw [if_neg (by omega)]
   simp [Array.getElem?_modify, Ne.symm hb]
  exact ⟨θ, .ro (.v _), Step.write hs hm (by simp) hθ (Go.Lib.below_freeze (Below.refl 0 w) (Nat.zero_le _) _) (fun b _ hne => hfz b fun e => hne (by rw [e]; rfl)) fun _ _ => trivial⟩
end
end Go.Proofs.YtjhcfpdgldpicaaGreatDoor
