/- Texts of this claim, one behind the other: lemmas for the statement. -/
import Derived.Test.YtjhcfpdgldpicaaGreatDoorA25
import Derived.Test.YtjhcfpdgldpicaaGreatDoorA15
import Derived.Test.YtjhcfpdgldpicaaGreatDoorM1
import Derived.Test.YtjhcfpdgldpicaaGreatDoorA44
import Derived.Test.YtjhcfpdgldpicaaGreatDoorA16
set_option linter.unusedSimpArgs false
set_option linter.unusedVariables false
namespace Go.Proofs.YtjhcfpdgldpicaaGreatDoor
open Go Go.RowKit Go.Proofs
section
variable {P : Program} {e : Nat → AV} {mem : List Ob} {d : Option Tmp} {ty t : TypeId} {pos : String} {af : Array Edge} {g : Option (Nat × Bool)} {x y : Operand}
end
end Go.Proofs.YtjhcfpdgldpicaaGreatDoor
namespace Go.Proofs.YtjhcfpdgldpicaaGreatDoor
open Go Go.RowKit Go.Proofs
theorem Step.news {pb : Nat → Prop} {w0 : Bs} {w w' : World} {θ : List Value} {mem : List Ob} (h : SimM pb w0 w θ mem) (hx : Ext w w') (vs : List Value) (os : List Ob) (hlen : vs.length = os.length) (hb : ∀ (i : Nat) (v : Value) (b : Nat), vs[i]? = some v → baseOf v = some b → w.heap.size ≤ b)
 (hd : ∀ (i j : Nat) (v u : Value) (b : Nat), vs[i]? = some v → vs[j]? = some u → baseOf v = some b → baseOf u = some b → i = j)
 (ho : ∀ θ' pr, (∀ a x, R1 θ (Prot pb θ mem) w a x → R1 θ' pr w' a x) → ∀ (i : Nat) (v : Value) (o : Ob), vs[i]? = some v → os[i]? = some o → ObR θ' pr w0.okb w' v o) : Step pb w0 θ mem w (θ ++ vs) (mem ++ os) w' := by
 have hθ : ∀ (j : Nat) (x : Value), θ[j]? = some x → (θ ++ vs)[j]? = some x := fun j x hj => by rw [List.getElem?_append_left (List.getElem?_eq_some_iff.1 hj).1]; exact hj
 have split : ∀ {j : Nat} {p : Ob} {u : Value}, (mem ++ os)[j]? = some p → (θ ++ vs)[j]? = some u → (mem[j]? = some p ∧ θ[j]? = some u) ∨ (mem.length ≤ j ∧ os[j - mem.length]? = some p ∧ vs[j - mem.length]? = some u) := by
  intro j p u hm hu
  rcases Nat.lt_or_ge j mem.length with hj | hj
  ·rw [List.getElem?_append_left hj] at hm
   rw [List.getElem?_append_left (by rw [h.len]; exact hj)] at hu
   exact .inl ⟨hm, hu⟩
  ·rw [List.getElem?_append_right hj] at hm
   rw [List.getElem?_append_right (by rw [h.len]; exact hj), h.len] at hu
   exact .inr ⟨hj, hm, hu⟩
 have hp : ∀ b, b < w.heap.size → ¬ Prot pb θ mem b → ¬ Prot pb (θ ++ vs) (mem ++ os) b := by
  intro b hlt hn hq
  rcases hq with hq | ⟨j, p, u, h1, h2, h3, h4⟩
  ·exact hn (.inl hq)
  rcases split h1 h3 with ⟨h5, h6⟩ | ⟨_, _, h6⟩
  ·exact hn (.inr ⟨j, p, u, h5, h2, h6, h4⟩)
  ·have := hb _ _ b h6 h4; omega
 have keep : ∀ a x, R1 θ (Prot pb θ mem) w a x → R1 (θ ++ vs) (Prot pb (θ ++ vs) (mem ++ os)) w' a x := fun a x hr => hr.mono hθ hx.size (fun b hb _ => hx.block b hb) hp
 refine ⟨⟨h.ext.ext hx, h.low, by simp [h.len, hlen], fun j p u hm hu => ?_, fun i j p q u u' b h1 h2 h3 h4 h5 h6 h7 h8 => ?_⟩, keep, hx.size, fun b hb _ => hx.block b hb, hp⟩
 ·rcases split hm hu with ⟨h5, h6⟩ | ⟨_, h5, h6⟩
  ·by_cases hg : p = .gone
   ·subst hg; trivial
   ·exact (h.ob j p u h5 h6).mono hθ hx.size (fun b hb _ => hx.block b hb) hp (fun b hb => hx.block b ((h.ob j p u h5 h6).lt hg hb).2)
  ·exact ho _ _ keep _ _ _ h6 h5
 ·rcases split h1 h5 with ⟨a1, a2⟩ | ⟨l1, a1, a2⟩ <;> rcases split h3 h6 with ⟨a3, a4⟩ | ⟨l2, a3, a4⟩
  ·exact h.dis i j p q u u' b a1 h2 a3 h4 a2 a4 h7 h8
  ·have := ((h.ob i p u a1 a2).lt h2 h7).2; have := hb _ _ b a4 h8; omega
  ·have := ((h.ob j q u' a3 a4).lt h4 h8).2; have := hb _ _ b a2 h7; omega
  ·have := hd _ _ _ _ b a2 a4 h7 h8; omega
section
variable {P : Program} {e : Nat → AV} {mem : List Ob} {d : Option Tmp} {ty t : TypeId} {pos : String} {af : Array Edge} {g : Option (Nat × Bool)} {x y : Operand}
end
end Go.Proofs.YtjhcfpdgldpicaaGreatDoor
namespace Go.Proofs.YtjhcfpdgldpicaaGreatDoor
open Go Go.RowKit Go.Proofs
section
variable {P : Program} {e : Nat → AV} {mem : List Ob} {d : Option Tmp} {ty t t2 : TypeId} {pos : String} {af : Array Edge} {g : Option (Nat × Bool)} {x y z : Operand}
end
section
variable {P : Program} {N : Nat} {Q : AQ} {e : Nat → AV} {mem : List Ob}
theorem aw_freezeF {M : Mode} {c : Code} {j k eT kk : Nat} {T : TypeId} {cells : List AV} {els : List (List AV)} (o : Nat) (hm : mem[j]? = some (.box T cells)) (hk : mem[k]? = some (.row eT kk els)) (hjk : k ≠ j) (ho : cells[o]? = some (.own k))
 (h : ∀ m1, m1 = (mem.set k .gone).set j (.box T (cells.set o (.row kk els))) → AW M P N c Q e m1) : AW M P N c Q e mem := by
 refine fun F n hF pb w0 θ a w hf => ?_
 have hsim := hf.sim
 have D1 := Step.drop hsim k
 have hm2 : (mem.set k .gone)[j]? = some (.box T cells) := by rw [List.getElem?_set_ne hjk]; exact hm
 obtain ⟨v, hv⟩ : ∃ v, θ[j]? = some v := ⟨_, List.getElem?_eq_getElem (by rw [hsim.len]; exact (List.getElem?_eq_some_iff.1 hm).1)⟩
 obtain ⟨b', xs, hb1, hb2, hb3, hb4, hb5⟩ := hsim.ob j _ v hm hv
 obtain ⟨b2, xs2, c1, c2, c3, c4, c5⟩ := D1.sim.ob j _ v hm2 hv
 have st2 : Step pb w0 θ (mem.set k .gone) w θ ((mem.set k .gone).set j (.box T (cells.set o (.row kk els)))) w :=
  Step.write (o' := Ob.box T (cells.set o (.row kk els))) D1.sim hm2 (by simp) hv (Below.refl 0 w) (fun _ _ _ => rfl) fun pr keep => ⟨b2, xs2, c1, c2, c3, by simpa using c4, fun i a x ha hx => by
   by_cases hi : o = i
   ·subst hi
    have hlt : o < cells.length := (List.getElem?_eq_some_iff.1 ho).1
    rw [List.getElem?_set_self hlt] at ha
    cases ha
    have hx2 := (c5 o _ x ho hx).getOwn
    exact keep _ _ (.ro (row_given hsim hk hx2))
   ·rw [List.getElem?_set_ne hi] at ha
    exact keep _ _ (c5 i a x ha hx)⟩
 have st3 := D1.trans st2
 exact wpIn_mono (h _ rfl F n hF pb w0 θ a w ⟨hf.size, hf.dfr.step st3, fun t => st3.keep _ _ (hf.sl t), st3.sim⟩) fun _ _ _ hq => hq.after st3
end
end Go.Proofs.YtjhcfpdgldpicaaGreatDoor
namespace Go.Proofs.YtjhcfpdgldpicaaGreatDoor
open Go Go.RowKit
section
variable {P : Program} {e : Nat → AV} {mem : List Ob}
theorem results_five {fn : Func} {rv1 rv2 rv3 rv4 rv5 : ResultVar} (h : fn.results = #[rv1, rv2, rv3, rv4, rv5]) (tmps : Array Value) {w : World} {v1 v2 v3 v4 v5 : Value} (h1 : (resS tmps rv1).run P w = .ok v1 w) (h2 : (resS tmps rv2).run P w = .ok v2 w) (h3 : (resS tmps rv3).run P w = .ok v3 w) (h4 : (resS tmps rv4).run P w = .ok v4 w) (h5 : (resS tmps rv5).run P w = .ok v5 w) : (results fn tmps).run P w = .ok (.tuple #[v1, v2, v3, v4, v5]) w := by
 have e : results fn tmps = (do let a ← resS tmps rv1; let b ← resS tmps rv2; let c ← resS tmps rv3; let d ← resS tmps rv4; let f ← resS tmps rv5; pure (.tuple #[a, b, c, d, f])) := by
  unfold results
  rw [h]
  cases rv1 <;> cases rv2 <;> cases rv3 <;> cases rv4 <;> cases rv5 <;> simp [resS]
 rw [e]
 simp [Sem.run_bind, h1, h2, h3, h4, h5]
theorem ret5 {N : Nat} {fn : Func} {ψ : AV → Prop} {x : Exit} (hx : x = .normal ∨ x = .ret) {rv1 rv2 rv3 rv4 rv5 : ResultVar} {a1 a2 a3 a4 a5 r1 r2 r3 r4 r5 : AV} (hr : fn.results = #[rv1, rv2, rv3, rv4, rv5]) (h1 : ResV P e mem rv1 a1) (h2 : ResV P e mem rv2 a2) (h3 : ResV P e mem rv3 a3) (h4 : ResV P e mem rv4 a4) (h5 : ResV P e mem rv5 a5) (hv1 : Vw mem a1 r1) (hv2 : Vw mem a2 r2) (hv3 : Vw mem a3 r3) (hv4 : Vw mem a4 r4) (hv5 : Vw mem a5 r5) (hψ : ψ (.tuple [r1, r2, r3, r4, r5])) : RetQ P N fn ψ x e mem := by
 refine ⟨hx, _, hψ, fun pb w0 θ w act hf => ?_⟩
 obtain ⟨v1, q1, p1⟩ := resV_run hf h1
 obtain ⟨v2, q2, p2⟩ := resV_run hf h2
 obtain ⟨v3, q3, p3⟩ := resV_run hf h3
 obtain ⟨v4, q4, p4⟩ := resV_run hf h4
 obtain ⟨v5, q5, p5⟩ := resV_run hf h5
 refine ⟨.tuple #[v1, v2, v3, v4, v5], results_five hr _ q1 q2 q3 q4 q5, .tuple _ [v1, v2, v3, v4, v5] rfl fun i a u ha hu => ?_⟩
 rcases i with _ | _ | _ | _ | _ | i
 ·simp at ha hu; subst ha hu; exact hv1.ok hf.sim p1
 ·simp at ha hu; subst ha hu; exact hv2.ok hf.sim p2
 ·simp at ha hu; subst ha hu; exact hv3.ok hf.sim p3
 ·simp at ha hu; subst ha hu; exact hv4.ok hf.sim p4
 ·simp at ha hu; subst ha hu; exact hv5.ok hf.sim p5
 ·simp at ha
end
end Go.Proofs.YtjhcfpdgldpicaaGreatDoor
namespace Go.Proofs.YtjhcfpdgldpicaaGreatDoor
open Go Go.RowKit Go.Proofs
set_option maxRecDepth 100000
set_option maxHeartbeats 1000000
section
variable {P : Program} {e : Nat → AV} {mem : List Ob} {d : Option Tmp} {ty t : TypeId} {pos : String} {af : Array Edge} {g : Option (Nat × Bool)} {x y : Operand}
theorem ro_slh {els : List (List AV)} {k bytes eT : Nat} {zv : Value} {n : Int} {kn : IntKind} (hty : SlIs P t eT k bytes zv) (hx : evA e x = .row k els) (hy : evA e y = .v (.int kn n)) (h0 : 0 ≤ n) (hn : n ≤ els.length) :
 OpRO P ⟨d, .slice t x none (some y) none, ty, pos, af, g⟩ e mem (.row k (els.take n.toNat)) := by
 obtain ⟨row, ht⟩ := hty.tyIs
 have hu := hty.1
 obtain ⟨b, rfl⟩ : ∃ q : Nat, n = q := ⟨n.toNat, by omega⟩
 obtain ⟨a, ha0⟩ : ∃ a, a = 0 := ⟨0, rfl⟩
 have h1 : a ≤ b := by omega
 have h2 : b ≤ els.length := by omega
 simp only [Int.toNat_natCast]
 rw [show els.take b = (els.take b).drop a by rw [ha0, List.drop_zero]]
 intro pb w0 θ w ev hs h
 have h1' := h x (by simp [Op.operands])
 have h2' := h y (by simp [Op.operands])
 rw [hx] at h1'; rw [hy] at h2'
 generalize hv : evE ev x = p at h1'
 rw [ex_slice01 hv h2'.val, Sem.run_bind]
 have run : ∀ (A : Option Addr) (c : Nat), els.length ≤ c → (Instr.sliceAt t (.slice A els.length c) none (some (.int kn (b : Int))) none).run P w = .ok (.slice (if c = a then A else A.map (·.add (a * k))) (b - a) (c - a)) w := by
  intro A c hc
  have hb : b ≤ c := by omega
  subst ha0
  simp [Instr.sliceAt, run_underlying hu, Instr.slice, Instr.sliceBounds, Instr.sliceBound, asIntOf, hb, h1, ht.sizeOf, Sem.run_bind]
  try (cases A <;> simp [Addr.add])
 cases h1'.getRow with
 | nil =>
  have ha : a = 0 := by simp at h2; omega
  have hb : b = 0 := by simp at h2; omega
  subst ha hb
  have := run (by assumption) (by assumption) (by simp)
  simp only [List.length_nil] at this
  rw [this]
  refine ⟨.ro ?_, Ext.refl w⟩
  simp
  exact .nil _ _ _
 | row _ _ bb o c f hne hc hk hb hp hcell hr =>
  rw [run _ _ hc]
  refine ⟨.ro ?_, Ext.refl w⟩
  have hlen : ((els.take b).drop a).length = b - a := by simp; omega
  have key : ∀ i a', ((els.take b).drop a).flatten[i]? = some a' → els.flatten[a * k + i]? = some a' := by
   intro i a' hi
   have e1 : els = els.take a ++ ((els.take b).drop a ++ els.drop b) := by
    have e2 : els.take a = (els.take b).take a := by rw [List.take_take, Nat.min_eq_left (by omega)]
    rw [e2, ← List.append_assoc, List.take_append_drop, List.take_append_drop]
   rw [e1, List.flatten_append, List.getElem?_append_right (by rw [flatten_length (fun l hl => hk l (List.mem_of_mem_take hl))]; simp; rw [Nat.min_eq_left (by omega)]; omega),
    flatten_length (fun l hl => hk l (List.mem_of_mem_take hl)), List.flatten_append]
   have e3 : a * k + i - (els.take a).length * k = i := by
    rw [List.length_take, Nat.min_eq_left (by omega)]; omega
   rw [e3, List.getElem?_append_left (List.getElem?_eq_some_iff.1 hi).1]
   exact hi
  by_cases hempty : b - a = 0
  ·have : (els.take b).drop a = [] := List.eq_nil_of_length_eq_zero (by omega)
   rw [this, hempty]; exact .nil _ _ _
  ·rw [if_neg (by omega), ← hlen]
   show R0 _ _ _ (.slice (some ((⟨bb, o, none⟩ : Addr).add (a * k))) _ _)
   rw [add_ne]
   refine .row k _ bb (o + a * k) _ (fun i => f (a * k + i)) (fun h0 => by rw [h0] at hlen; simp at hlen; omega) (by omega) (fun l hl => hk l (List.mem_of_mem_take (List.mem_of_mem_drop hl))) hb hp (fun i a' hi => ?_) (fun i a' hi => ?_)
   ·rw [Nat.add_assoc]; exact hcell _ a' (key i a' hi)
   ·exact hr _ a' (key i a' hi)
end
end Go.Proofs.YtjhcfpdgldpicaaGreatDoor
