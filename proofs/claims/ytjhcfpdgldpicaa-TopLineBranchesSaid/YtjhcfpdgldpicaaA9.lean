/- Lemmas for the statement. -/
import Derived.Test.YtjhcfpdgldpicaaA8
namespace Go.Proofs.Ytjhcfpdgldpicaa
open Go Go.RowKit
set_option linter.unusedVariables false
set_option linter.unusedSimpArgs false
section
variable {M : Mode} {P : Program} {N : Nat} {Q : AQ} {e : Nat → AV} {mem : List Ob} {d : Option Tmp} {ty t t2 : TypeId} {pos : String} {af : Array Edge} {g : Option (Nat × Bool)} {x y z : Operand} {K : (Nat → AV) → List Ob → Prop} {id : Nat}
theorem ev_c {v : Value} : evA e (.const v) = .v v := rfl
theorem ev_f {f : FuncId} : evA e (.func f) = .v (.func (.func f) #[] #[]) := rfl
theorem u2 {e : Nat → AV} {t d0 d1 : Tmp} {r0 r1 a : AV} (hd : (t == d0 || t == d1) = false) (h : evA e (.tmp t) = a) : evA (upA (upA e (some d0) r0) (some d1) r1) (.tmp t) = a := by
 simp only [Bool.or_eq_false_iff] at hd
 exact up_m hd.2 (up_m hd.1 h)
theorem u4 {e : Nat → AV} {t d0 d1 d2 d3 : Tmp} {r0 r1 r2 r3 a : AV} (hd : (t == d0 || t == d1 || t == d2 || t == d3) = false) (h : evA e (.tmp t) = a) : evA (upA (upA (upA (upA e (some d0) r0) (some d1) r1) (some d2) r2) (some d3) r3) (.tmp t) = a := by
 simp only [Bool.or_eq_false_iff] at hd
 exact up_m hd.2 (up_m hd.1.2 (up_m hd.1.1.2 (up_m hd.1.1.1 h)))
theorem u8 {e : Nat → AV} {t d0 d1 d2 d3 d4 d5 d6 d7 : Tmp} {r0 r1 r2 r3 r4 r5 r6 r7 a : AV} (hd : (t == d0 || t == d1 || t == d2 || t == d3 || t == d4 || t == d5 || t == d6 || t == d7) = false) (h : evA e (.tmp t) = a) : evA (upA (upA (upA (upA (upA (upA (upA (upA e (some d0) r0) (some d1) r1) (some d2) r2) (some d3) r3) (some d4) r4) (some d5) r5) (some d6) r6) (some d7) r7) (.tmp t) = a := by
 simp only [Bool.or_eq_false_iff] at hd
 exact up_m hd.2 (up_m hd.1.2 (up_m hd.1.1.2 (up_m hd.1.1.1.2 (up_m hd.1.1.1.1.2 (up_m hd.1.1.1.1.1.2 (up_m hd.1.1.1.1.1.1.2 (up_m hd.1.1.1.1.1.1.1 h)))))))
theorem u16 {e : Nat → AV} {t d0 d1 d2 d3 d4 d5 d6 d7 d8 d9 d10 d11 d12 d13 d14 d15 : Tmp} {r0 r1 r2 r3 r4 r5 r6 r7 r8 r9 r10 r11 r12 r13 r14 r15 a : AV} (hd : (t == d0 || t == d1 || t == d2 || t == d3 || t == d4 || t == d5 || t == d6 || t == d7 || t == d8 || t == d9 || t == d10 || t == d11 || t == d12 || t == d13 || t == d14 || t == d15) = false) (h : evA e (.tmp t) = a) : evA (upA (upA (upA (upA (upA (upA (upA (upA (upA (upA (upA (upA (upA (upA (upA (upA e (some d0) r0) (some d1) r1) (some d2) r2) (some d3) r3) (some d4) r4) (some d5) r5) (some d6) r6) (some d7) r7) (some d8) r8) (some d9) r9) (some d10) r10) (some d11) r11) (some d12) r12) (some d13) r13) (some d14) r14) (some d15) r15) (.tmp t) = a := by
 simp only [Bool.or_eq_false_iff] at hd
 exact up_m hd.2 (up_m hd.1.2 (up_m hd.1.1.2 (up_m hd.1.1.1.2 (up_m hd.1.1.1.1.2 (up_m hd.1.1.1.1.1.2 (up_m hd.1.1.1.1.1.1.2 (up_m hd.1.1.1.1.1.1.1.2 (up_m hd.1.1.1.1.1.1.1.1.2 (up_m hd.1.1.1.1.1.1.1.1.1.2 (up_m hd.1.1.1.1.1.1.1.1.1.1.2 (up_m hd.1.1.1.1.1.1.1.1.1.1.1.2 (up_m hd.1.1.1.1.1.1.1.1.1.1.1.1.2 (up_m hd.1.1.1.1.1.1.1.1.1.1.1.1.1.2 (up_m hd.1.1.1.1.1.1.1.1.1.1.1.1.1.1.2 (up_m hd.1.1.1.1.1.1.1.1.1.1.1.1.1.1.1 h)))))))))))))))
theorem ef {e e1 : Nat → AV} (t : Tmp) {a : AV} (h : e1 = e) (h2 : evA e (.tmp t) = a) : evA e1 (.tmp t) = a := by subst h; exact h2
theorem ro_eq {o : Oper} {r r' : AV} (h : OpRO P o e mem r) (hr : r = r') : OpRO P o e mem r' := hr ▸ h
theorem then_n (h : K e mem) : ThenA K Q .normal e mem := h
theorem then_x (h : Q (.exit id) e mem) : ThenA K Q (.exit id) e mem := h
theorem then_r (h : Q .ret e mem) : ThenA K Q .ret e mem := h
theorem block_n (h : Q .normal e mem) : BlockA id Q .normal e mem := h
theorem block_r (h : Q .ret e mem) : BlockA id Q .ret e mem := h
theorem block_hit (h : Q .normal e mem) : BlockA id Q (.exit id) e mem := by show (if id = id then _ else _); rw [if_pos rfl]; exact h
theorem block_miss {i : Nat} (hi : (i == id) = false) (h : Q (.exit i) e mem) : BlockA id Q (.exit i) e mem := by
 show (if i = id then _ else _); rw [if_neg (by simpa using hi)]; exact h
theorem al_stm {ops : Array Oper} {l : List Oper} {op : Op} {r : AV} {mem' : List Ob} (ho : OpST P ⟨d, op, ty, pos, af, g⟩ e mem r mem') (hg : Gd ops ⟨d, op, ty, pos, af, g⟩ e) (hd : dstB N d = true) (h : ∀ m, m = mem' → AL P N ops l Q (upA e d r) m) : AL P N ops (⟨d, op, ty, pos, af, g⟩ :: l) Q e mem := al_st ho hg hd (h _ rfl)
theorem case_b {G : Prop} {s : Tmp} {b : Bool} (hb : evA e (.tmp s) = .v (.bool b)) (ht : evA e (.tmp s) = .v (.bool true) → b = true → G) (hf : evA e (.tmp s) = .v (.bool false) → b = false → G) : G := by
 cases b
 ·exact hf hb rfl
 ·exact ht hb rfl
theorem al_ro' {ops : Array Oper} {l : List Oper} {op : Op} {r : AV} (ho : OpRO P ⟨d, op, ty, pos, af, g⟩ e mem r) (hg : Gd ops ⟨d, op, ty, pos, af, g⟩ e) (hd : dstB N d = true) (h : AL P N ops l Q (upA e d r) mem) : AL P N ops (⟨d, op, ty, pos, af, g⟩ :: l) Q e mem := al_ro ho hg hd h
theorem ds_ro' {ops : Array Oper} {tail l : List Oper} {op : Op} {r : AV} (ho : OpRO P ⟨d, op, ty, pos, af, g⟩ e mem r) (hg : Gd ops ⟨d, op, ty, pos, af, g⟩ e) (hd : dstB N d = true) (h : DS P N ops tail Q mem l (upA e d r)) : DS P N ops tail Q mem (⟨d, op, ty, pos, af, g⟩ :: l) e := ds_ro ho hg hd h
theorem ar {ops : Array Oper} {l : List Oper} {op : Op} {r : AV} (ho : OpRO P ⟨d, op, ty, pos, af, none⟩ e mem r) (hd : dstB N d = true) (h : AL P N ops l Q (upA e d r) mem) : AL P N ops (⟨d, op, ty, pos, af, none⟩ :: l) Q e mem := al_ro ho trivial hd h
theorem dr {ops : Array Oper} {tail l : List Oper} {op : Op} {r : AV} (ho : OpRO P ⟨d, op, ty, pos, af, none⟩ e mem r) (hd : dstB N d = true) (h : DS P N ops tail Q mem l (upA e d r)) : DS P N ops tail Q mem (⟨d, op, ty, pos, af, none⟩ :: l) e := ds_ro ho trivial hd h
theorem at_ {id : Nat} {l : List Oper} (h : AL P N l.toArray l Q e mem) (hd : noDefer l = true := by kernel_rfl) : AW M P N (.region id l.toArray false) Q e mem := aw_text hd h
theorem nle {a b : Nat} (h : Nat.ble a b = true) : a ≤ b := Nat.le_of_ble_eq_true h
theorem ae0 {ops : Array Oper} (h : ∀ e1, Q .normal e1 mem) : AL P N ops [] Q e mem := al_nil (h e)
theorem ae1 {ops : Array Oper} {t0 : Tmp} {a0 : AV} (h0 : evA e (.tmp t0) = a0) (h : ∀ e1, evA e1 (.tmp t0) = a0 → Q .normal e1 mem) : AL P N ops [] Q e mem := al_nil (h e h0)
theorem ae2 {ops : Array Oper} {t0 t1 : Tmp} {a0 a1 : AV} (h0 : evA e (.tmp t0) = a0) (h1 : evA e (.tmp t1) = a1) (h : ∀ e1, evA e1 (.tmp t0) = a0 → evA e1 (.tmp t1) = a1 → Q .normal e1 mem) : AL P N ops [] Q e mem := al_nil (h e h0 h1)
theorem ae3 {ops : Array Oper} {t0 t1 t2 : Tmp} {a0 a1 a2 : AV} (h0 : evA e (.tmp t0) = a0) (h1 : evA e (.tmp t1) = a1) (h2 : evA e (.tmp t2) = a2) (h : ∀ e1, evA e1 (.tmp t0) = a0 → evA e1 (.tmp t1) = a1 → evA e1 (.tmp t2) = a2 → Q .normal e1 mem) : AL P N ops [] Q e mem := al_nil (h e h0 h1 h2)
theorem ae4 {ops : Array Oper} {t0 t1 t2 t3 : Tmp} {a0 a1 a2 a3 : AV} (h0 : evA e (.tmp t0) = a0) (h1 : evA e (.tmp t1) = a1) (h2 : evA e (.tmp t2) = a2) (h3 : evA e (.tmp t3) = a3) (h : ∀ e1, evA e1 (.tmp t0) = a0 → evA e1 (.tmp t1) = a1 → evA e1 (.tmp t2) = a2 → evA e1 (.tmp t3) = a3 → Q .normal e1 mem) : AL P N ops [] Q e mem := al_nil (h e h0 h1 h2 h3)
theorem ae5 {ops : Array Oper} {t0 t1 t2 t3 t4 : Tmp} {a0 a1 a2 a3 a4 : AV} (h0 : evA e (.tmp t0) = a0) (h1 : evA e (.tmp t1) = a1) (h2 : evA e (.tmp t2) = a2) (h3 : evA e (.tmp t3) = a3) (h4 : evA e (.tmp t4) = a4) (h : ∀ e1, evA e1 (.tmp t0) = a0 → evA e1 (.tmp t1) = a1 → evA e1 (.tmp t2) = a2 → evA e1 (.tmp t3) = a3 → evA e1 (.tmp t4) = a4 → Q .normal e1 mem) : AL P N ops [] Q e mem := al_nil (h e h0 h1 h2 h3 h4)
theorem ae6 {ops : Array Oper} {t0 t1 t2 t3 t4 t5 : Tmp} {a0 a1 a2 a3 a4 a5 : AV} (h0 : evA e (.tmp t0) = a0) (h1 : evA e (.tmp t1) = a1) (h2 : evA e (.tmp t2) = a2) (h3 : evA e (.tmp t3) = a3) (h4 : evA e (.tmp t4) = a4) (h5 : evA e (.tmp t5) = a5) (h : ∀ e1, evA e1 (.tmp t0) = a0 → evA e1 (.tmp t1) = a1 → evA e1 (.tmp t2) = a2 → evA e1 (.tmp t3) = a3 → evA e1 (.tmp t4) = a4 → evA e1 (.tmp t5) = a5 → Q .normal e1 mem) : AL P N ops [] Q e mem := al_nil (h e h0 h1 h2 h3 h4 h5)
theorem ae7 {ops : Array Oper} {t0 t1 t2 t3 t4 t5 t6 : Tmp} {a0 a1 a2 a3 a4 a5 a6 : AV} (h0 : evA e (.tmp t0) = a0) (h1 : evA e (.tmp t1) = a1) (h2 : evA e (.tmp t2) = a2) (h3 : evA e (.tmp t3) = a3) (h4 : evA e (.tmp t4) = a4) (h5 : evA e (.tmp t5) = a5) (h6 : evA e (.tmp t6) = a6) (h : ∀ e1, evA e1 (.tmp t0) = a0 → evA e1 (.tmp t1) = a1 → evA e1 (.tmp t2) = a2 → evA e1 (.tmp t3) = a3 → evA e1 (.tmp t4) = a4 → evA e1 (.tmp t5) = a5 → evA e1 (.tmp t6) = a6 → Q .normal e1 mem) : AL P N ops [] Q e mem := al_nil (h e h0 h1 h2 h3 h4 h5 h6)
theorem ae8 {ops : Array Oper} {t0 t1 t2 t3 t4 t5 t6 t7 : Tmp} {a0 a1 a2 a3 a4 a5 a6 a7 : AV} (h0 : evA e (.tmp t0) = a0) (h1 : evA e (.tmp t1) = a1) (h2 : evA e (.tmp t2) = a2) (h3 : evA e (.tmp t3) = a3) (h4 : evA e (.tmp t4) = a4) (h5 : evA e (.tmp t5) = a5) (h6 : evA e (.tmp t6) = a6) (h7 : evA e (.tmp t7) = a7) (h : ∀ e1, evA e1 (.tmp t0) = a0 → evA e1 (.tmp t1) = a1 → evA e1 (.tmp t2) = a2 → evA e1 (.tmp t3) = a3 → evA e1 (.tmp t4) = a4 → evA e1 (.tmp t5) = a5 → evA e1 (.tmp t6) = a6 → evA e1 (.tmp t7) = a7 → Q .normal e1 mem) : AL P N ops [] Q e mem := al_nil (h e h0 h1 h2 h3 h4 h5 h6 h7)
theorem ae9 {ops : Array Oper} {t0 t1 t2 t3 t4 t5 t6 t7 t8 : Tmp} {a0 a1 a2 a3 a4 a5 a6 a7 a8 : AV} (h0 : evA e (.tmp t0) = a0) (h1 : evA e (.tmp t1) = a1) (h2 : evA e (.tmp t2) = a2) (h3 : evA e (.tmp t3) = a3) (h4 : evA e (.tmp t4) = a4) (h5 : evA e (.tmp t5) = a5) (h6 : evA e (.tmp t6) = a6) (h7 : evA e (.tmp t7) = a7) (h8 : evA e (.tmp t8) = a8) (h : ∀ e1, evA e1 (.tmp t0) = a0 → evA e1 (.tmp t1) = a1 → evA e1 (.tmp t2) = a2 → evA e1 (.tmp t3) = a3 → evA e1 (.tmp t4) = a4 → evA e1 (.tmp t5) = a5 → evA e1 (.tmp t6) = a6 → evA e1 (.tmp t7) = a7 → evA e1 (.tmp t8) = a8 → Q .normal e1 mem) : AL P N ops [] Q e mem := al_nil (h e h0 h1 h2 h3 h4 h5 h6 h7 h8)
theorem ae10 {ops : Array Oper} {t0 t1 t2 t3 t4 t5 t6 t7 t8 t9 : Tmp} {a0 a1 a2 a3 a4 a5 a6 a7 a8 a9 : AV} (h0 : evA e (.tmp t0) = a0) (h1 : evA e (.tmp t1) = a1) (h2 : evA e (.tmp t2) = a2) (h3 : evA e (.tmp t3) = a3) (h4 : evA e (.tmp t4) = a4) (h5 : evA e (.tmp t5) = a5) (h6 : evA e (.tmp t6) = a6) (h7 : evA e (.tmp t7) = a7) (h8 : evA e (.tmp t8) = a8) (h9 : evA e (.tmp t9) = a9) (h : ∀ e1, evA e1 (.tmp t0) = a0 → evA e1 (.tmp t1) = a1 → evA e1 (.tmp t2) = a2 → evA e1 (.tmp t3) = a3 → evA e1 (.tmp t4) = a4 → evA e1 (.tmp t5) = a5 → evA e1 (.tmp t6) = a6 → evA e1 (.tmp t7) = a7 → evA e1 (.tmp t8) = a8 → evA e1 (.tmp t9) = a9 → Q .normal e1 mem) : AL P N ops [] Q e mem := al_nil (h e h0 h1 h2 h3 h4 h5 h6 h7 h8 h9)
theorem ae11 {ops : Array Oper} {t0 t1 t2 t3 t4 t5 t6 t7 t8 t9 t10 : Tmp} {a0 a1 a2 a3 a4 a5 a6 a7 a8 a9 a10 : AV} (h0 : evA e (.tmp t0) = a0) (h1 : evA e (.tmp t1) = a1) (h2 : evA e (.tmp t2) = a2) (h3 : evA e (.tmp t3) = a3) (h4 : evA e (.tmp t4) = a4) (h5 : evA e (.tmp t5) = a5) (h6 : evA e (.tmp t6) = a6) (h7 : evA e (.tmp t7) = a7) (h8 : evA e (.tmp t8) = a8) (h9 : evA e (.tmp t9) = a9) (h10 : evA e (.tmp t10) = a10) (h : ∀ e1, evA e1 (.tmp t0) = a0 → evA e1 (.tmp t1) = a1 → evA e1 (.tmp t2) = a2 → evA e1 (.tmp t3) = a3 → evA e1 (.tmp t4) = a4 → evA e1 (.tmp t5) = a5 → evA e1 (.tmp t6) = a6 → evA e1 (.tmp t7) = a7 → evA e1 (.tmp t8) = a8 → evA e1 (.tmp t9) = a9 → evA e1 (.tmp t10) = a10 → Q .normal e1 mem) : AL P N ops [] Q e mem := al_nil (h e h0 h1 h2 h3 h4 h5 h6 h7 h8 h9 h10)
theorem ae12 {ops : Array Oper} {t0 t1 t2 t3 t4 t5 t6 t7 t8 t9 t10 t11 : Tmp} {a0 a1 a2 a3 a4 a5 a6 a7 a8 a9 a10 a11 : AV} (h0 : evA e (.tmp t0) = a0) (h1 : evA e (.tmp t1) = a1) (h2 : evA e (.tmp t2) = a2) (h3 : evA e (.tmp t3) = a3) (h4 : evA e (.tmp t4) = a4) (h5 : evA e (.tmp t5) = a5) (h6 : evA e (.tmp t6) = a6) (h7 : evA e (.tmp t7) = a7) (h8 : evA e (.tmp t8) = a8) (h9 : evA e (.tmp t9) = a9) (h10 : evA e (.tmp t10) = a10) (h11 : evA e (.tmp t11) = a11) (h : ∀ e1, evA e1 (.tmp t0) = a0 → evA e1 (.tmp t1) = a1 → evA e1 (.tmp t2) = a2 → evA e1 (.tmp t3) = a3 → evA e1 (.tmp t4) = a4 → evA e1 (.tmp t5) = a5 → evA e1 (.tmp t6) = a6 → evA e1 (.tmp t7) = a7 → evA e1 (.tmp t8) = a8 → evA e1 (.tmp t9) = a9 → evA e1 (.tmp t10) = a10 → evA e1 (.tmp t11) = a11 → Q .normal e1 mem) : AL P N ops [] Q e mem := al_nil (h e h0 h1 h2 h3 h4 h5 h6 h7 h8 h9 h10 h11)
theorem ae13 {ops : Array Oper} {t0 t1 t2 t3 t4 t5 t6 t7 t8 t9 t10 t11 t12 : Tmp} {a0 a1 a2 a3 a4 a5 a6 a7 a8 a9 a10 a11 a12 : AV} (h0 : evA e (.tmp t0) = a0) (h1 : evA e (.tmp t1) = a1) (h2 : evA e (.tmp t2) = a2) (h3 : evA e (.tmp t3) = a3) (h4 : evA e (.tmp t4) = a4) (h5 : evA e (.tmp t5) = a5) (h6 : evA e (.tmp t6) = a6) (h7 : evA e (.tmp t7) = a7) (h8 : evA e (.tmp t8) = a8) (h9 : evA e (.tmp t9) = a9) (h10 : evA e (.tmp t10) = a10) (h11 : evA e (.tmp t11) = a11) (h12 : evA e (.tmp t12) = a12) (h : ∀ e1, evA e1 (.tmp t0) = a0 → evA e1 (.tmp t1) = a1 → evA e1 (.tmp t2) = a2 → evA e1 (.tmp t3) = a3 → evA e1 (.tmp t4) = a4 → evA e1 (.tmp t5) = a5 → evA e1 (.tmp t6) = a6 → evA e1 (.tmp t7) = a7 → evA e1 (.tmp t8) = a8 → evA e1 (.tmp t9) = a9 → evA e1 (.tmp t10) = a10 → evA e1 (.tmp t11) = a11 → evA e1 (.tmp t12) = a12 → Q .normal e1 mem) : AL P N ops [] Q e mem := al_nil (h e h0 h1 h2 h3 h4 h5 h6 h7 h8 h9 h10 h11 h12)
theorem al_skip' {ops : Array Oper} {l : List Oper} {op : Op} (hg : Ng ops ⟨d, op, ty, pos, af, g⟩ e) (hd : dstB N d = true) (h : AL P N ops l Q (upA e d (.v undef)) mem) : AL P N ops (⟨d, op, ty, pos, af, g⟩ :: l) Q e mem := al_skip hg hd h
theorem ds_skip' {ops : Array Oper} {tail l : List Oper} {op : Op} (hg : Ng ops ⟨d, op, ty, pos, af, g⟩ e) (hd : dstB N d = true) (h : DS P N ops tail Q mem l (upA e d (.v undef))) : DS P N ops tail Q mem (⟨d, op, ty, pos, af, g⟩ :: l) e := ds_skip hg hd h
theorem al_case {ops : Array Oper} {l : List Oper} {s : Tmp} {b : Bool} (hb : evA e (.tmp s) = .v (.bool b)) (ht : evA e (.tmp s) = .v (.bool true) → b = true → AL P N ops l Q e mem) (hf : evA e (.tmp s) = .v (.bool false) → b = false → AL P N ops l Q e mem) : AL P N ops l Q e mem := case_b hb ht hf
theorem ds_case {ops : Array Oper} {tail l : List Oper} {s : Tmp} {b : Bool} (hb : evA e (.tmp s) = .v (.bool b)) (ht : evA e (.tmp s) = .v (.bool true) → b = true → DS P N ops tail Q mem l e) (hf : evA e (.tmp s) = .v (.bool false) → b = false → DS P N ops tail Q mem l e) : DS P N ops tail Q mem l e := case_b hb ht hf
theorem aw_case {c : Operand} {x y : Code} {b : Bool} (hc : evA e c = .v (.bool b)) (ht : b = true → AW M P N x Q e mem) (hf : b = false → AW M P N y Q e mem) : AW M P N (.cond c x y) Q e mem := aw_cond hc ht hf
section
variable {m : List Ob} {o o0 : Ob} {i j n : Nat} {q : Option Ob}
theorem m_set (h : m = mem.set j o) (hj : mem[j]? = some o0) : m[j]? = some o := by subst h; rw [List.getElem?_set_self (List.getElem?_eq_some_iff.1 hj).1]
theorem m_set_o (h : m = mem.set j o) (hi : mem[i]? = q) (hij : i ≠ j) : m[i]? = q := by subst h; rw [List.getElem?_set_ne (Ne.symm hij)]; exact hi
theorem m_set_l (h : m = mem.set j o) (hl : mem.length = n) : m.length = n := by subst h; simpa using hl
theorem m_push (h : m = mem ++ [o]) (hl : mem.length = n) : m[n]? = some o := by subst h; subst hl; simp
theorem m_push_o (h : m = mem ++ [o]) (hi : mem[i]? = some o0) : m[i]? = some o0 := by subst h; rw [List.getElem?_append_left (List.getElem?_eq_some_iff.1 hi).1]; exact hi
theorem m_push_l (h : m = mem ++ [o]) (hl : mem.length = n) : m.length = n + 1 := by subst h; simp [hl]
theorem m_swap (h : m = mem.set j .gone ++ [o]) (hl : mem.length = n) : m[n]? = some o := by subst h; subst hl; simp
theorem m_swap_o (h : m = mem.set j .gone ++ [o]) (hi : mem[i]? = some o0) (hij : i ≠ j) : m[i]? = some o0 := by
 subst h
 rw [List.getElem?_append_left (by have := (List.getElem?_eq_some_iff.1 hi).1; simpa using this), List.getElem?_set_ne (Ne.symm hij)]; exact hi
theorem m_swap_l (h : m = mem.set j .gone ++ [o]) (hl : mem.length = n) : m.length = n + 1 := by subst h; simp [hl]
end
theorem bt {p : Prop} [Decidable p] (h : decide p = true) : p := of_decide_eq_true h
theorem bf {p : Prop} [Decidable p] (h : decide p = false) : ¬ p := of_decide_eq_false h
theorem bnt {p : Prop} [Decidable p] (h : (!decide p) = true) : ¬ p := by simpa using h
theorem bnf {p : Prop} [Decidable p] (h : (!decide p) = false) : p := by simpa using h
theorem bt' {b : Bool} (h : (!b) = true) : b = false := by simpa using h
theorem bf' {b : Bool} (h : (!b) = false) : b = true := by simpa using h
theorem avb {a b : Bool} (h : a = true ↔ b = true) : AV.v (.bool a) = AV.v (.bool b) := by rw [Bool.eq_iff_iff.2 h]
def FldIs (P : Program) (S i off : Nat) (row : Bool) (n : Nat) : Prop := (match P.underlying S with | some (.struct fs) => (fs[i]?).bind fun f => if f.offset = off then (match P.underlying f.type with | some d => some (d.isRow, (P.info? f.type).map (·.size)) | none => none) else none | _ => none) = some (row, some n)
theorem FldIs.get {S i off n : Nat} {row : Bool} (h : FldIs P S i off row n) : ∃ fs f, P.underlying S = some (.struct fs) ∧ fs[i]? = some f ∧ f.offset = off ∧ TyIs P f.type row n := by
 unfold FldIs at h
 split at h
 ·rename_i fs hu
  cases hf : fs[i]? with
  | none => rw [hf] at h; cases h
  | some f =>
   rw [hf] at h
   simp only [Option.bind_some] at h
   split at h
   ·rename_i ho
    refine ⟨fs, f, hu, hf, ho, ?_⟩
    unfold TyIs
    split at h
    ·rename_i dd hd
     rw [hd]
     simp only [Option.some.injEq, Prod.mk.injEq] at h
     exact ⟨congrArg some h.1, h.2⟩
    ·cases h
   ·cases h
 ·cases h
theorem ro_fld_ref {cells : List AV} {i n off : Nat} {row : Bool} (hF : FldIs P t i off row n) (h0 : (n != 0) = true) (hx : evA e x = .ref cells) : OpRO P ⟨d, .fieldAddr t x i, ty, pos, af, g⟩ e mem (.ref (cells.drop off)) :=
 let ⟨_, _, h1, h2, h3, h4⟩ := hF.get; ro_fieldAddr_ref hx h1 h2 h3 h4 (by simpa using h0)
theorem ro_fld_ptr {j o i n off : Nat} {row : Bool} (hF : FldIs P t i off row n) (h0 : (n != 0) = true) (hx : evA e x = .ptr j o) : OpRO P ⟨d, .fieldAddr t x i, ty, pos, af, g⟩ e mem (.ptr j (o + off)) :=
 let ⟨_, _, h1, h2, h3, h4⟩ := hF.get; ro_fieldAddr_ptr hx h1 h2 h3 h4 (by simpa using h0)
theorem ro_ld_ref {n : Nat} {row : Bool} {cells : List AV} (ht : TyIs P t row n) (h1 : (row || n == 1) = true) (hx : evA e x = .ref cells) (hn : n ≤ cells.length) : OpRO P ⟨d, .load t x, ty, pos, af, g⟩ e mem (packA row n cells) :=
 ro_load_ref hx ht hn (by simpa using h1)
theorem ro_ld_ptr {j off n : Nat} {row : Bool} {T : TypeId} {cells : List AV} (ht : TyIs P t row n) (h1 : (row || n == 1) = true) (hm : mem[j]? = some (.box T cells)) (hx : evA e x = .ptr j off) (hn : off + n ≤ cells.length) : OpRO P ⟨d, .load t x, ty, pos, af, g⟩ e mem (packA row n (cells.drop off)) :=
 ro_load_ptr hx hm ht hn (by simpa using h1)
theorem ro_ld_el {j i n k : Nat} {row : Bool} {T : TypeId} {els : List (List AV)} {el : List AV} (ht : TyIs P t row n) (h1 : (row || n == 1) = true) (hm : mem[j]? = some (.row T k els)) (hx : evA e x = .ptr j (i * k)) (hn : n ≤ k) (hel : els[i]? = some el) : OpRO P ⟨d, .load t x, ty, pos, af, g⟩ e mem (packA row n el) :=
 ro_load_el hx hm rfl hel ht hn (by simpa using h1)
def SlIs (P : Program) (t eT k bytes : Nat) (zv : Value) : Prop := P.underlying t = some (.slice eT) ∧ (P.info? eT).map (fun i => (i.zero, i.size, i.bytes)) = some (some zv, k, bytes) ∧ (match P.underlying eT with | some d => some d.isRow | none => none).isSome = true
theorem SlIs.info {eT k bytes : Nat} {zv : Value} (h : SlIs P t eT k bytes zv) : ∃ i, P.info? eT = some i ∧ i.zero = some zv ∧ i.size = k ∧ i.bytes = bytes := by
 have := h.2.1
 cases hi : P.info? eT with
 | none => rw [hi] at this; cases this
 | some i => rw [hi] at this; simp only [Option.map_some, Option.some.injEq, Prod.mk.injEq] at this; exact ⟨i, rfl, this⟩
theorem SlIs.tyIs {eT k bytes : Nat} {zv : Value} (h : SlIs P t eT k bytes zv) : ∃ row, TyIs P eT row k := by
 obtain ⟨i, h1, h2, h3, h4⟩ := h.info
 have := h.2.2
 cases hd : (match P.underlying eT with | some d => some d.isRow | none => none) with
 | none => rw [hd] at this; cases this
 | some row => exact ⟨row, hd, by rw [h1]; simp [h3]⟩
theorem ro_ix {els : List (List AV)} {el : List AV} {k bytes eT : Nat} {zv : Value} {i : Int} {kk : IntKind} (ht : SlIs P t eT k bytes zv) (hx : evA e x = .row k els) (hy : evA e y = .v (.int kk i)) (h0 : 0 ≤ i) (hel : els[i.toNat]? = some el) : OpRO P ⟨d, .indexAddr t x y, ty, pos, af, g⟩ e mem (.ref el) :=
 let ⟨_, h⟩ := ht.tyIs; ro_indexAddr hx hy ht.1 h h0 hel
theorem ro_ix_own {j : Nat} {els : List (List AV)} {k bytes eT T : Nat} {zv : Value} {i : Int} {kk : IntKind} (ht : SlIs P t eT k bytes zv) (hm : mem[j]? = some (.row T k els)) (hx : evA e x = .own j) (hy : evA e y = .v (.int kk i)) (h0 : 0 ≤ i) (h1 : i < els.length) : OpRO P ⟨d, .indexAddr t x y, ty, pos, af, g⟩ e mem (.ptr j (i.toNat * k)) :=
 let ⟨_, h⟩ := ht.tyIs; ro_indexAddr_own hx hm hy ht.1 h h0 h1
theorem sw_app {j k bytes eT : Nat} {zv : Value} {els els2 : List (List AV)} (ht : SlIs P t eT k bytes zv) (hk : (zv.cells.size == k && decide (0 < k) && decide (0 < bytes)) = true) (hm : mem[j]? = some (.row eT k els)) (hx : evA e x = .own j) (hy : evA e y = .row k els2) (hone : els2.flatten.all oneA = true) (hb : (els.length + els2.length) * bytes ≤ 140737488355328) :
 OpSW P ⟨d, .call ⟨.builtin .append, #[x, y], #[t, t]⟩, ty, pos, af, g⟩ e mem j (.row eT k (els ++ els2)) (fun j => .own j) := by
 obtain ⟨i, h1, h2, h3, h4⟩ := ht.info
 simp only [Bool.and_eq_true, beq_iff_eq, decide_eq_true_eq] at hk
 exact sw_append hx hm hy hone ht.1 h1 h2 h3 h4 hk.1.1 hk.1.2 hk.2 hb
theorem st_app {j m k bytes eT : Nat} {zv : Value} {els els2 : List (List AV)} (ht : SlIs P t eT k bytes zv) (hk : (zv.cells.size == k && decide (0 < k) && decide (0 < bytes)) = true) (hl : mem.length = m) (hm : mem[j]? = some (.row eT k els)) (hx : evA e x = .own j) (hy : evA e y = .row k els2) (hone : els2.flatten.all oneA = true) (hb : (els.length + els2.length) * bytes ≤ 140737488355328) :
 OpST P ⟨d, .call ⟨.builtin .append, #[x, y], #[t, t]⟩, ty, pos, af, g⟩ e mem (.own m) (mem.set j .gone ++ [.row eT k (els ++ els2)]) := sw_st (h := fun j => .own j) (sw_app ht hk hm hx hy hone hb) hl
theorem nw_mk {k bytes eT : Nat} {zv : Value} {zs : List AV} {n : Int} {kl : IntKind} (ht : SlIs P t eT k bytes zv) (hk : (zv.cells.size == k && decide (0 < bytes)) = true) (hzs : zv.cells.toList.map AV.v = zs) (hx : evA e x = .v (.int kl n)) (hy : evA e y = .v (.int kl n)) (h0 : 0 ≤ n) (hb : bytes * n.toNat ≤ 281474976710656) :
 OpNW P ⟨d, .makeSlice t x y, ty, pos, af, g⟩ e mem (.row eT k (List.replicate n.toNat zs)) (fun j => .own j) := by
 obtain ⟨i, h1, h2, h3, h4⟩ := ht.info
 simp only [Bool.and_eq_true, beq_iff_eq, decide_eq_true_eq] at hk
 exact nw_make hx hy h0 ht.1 h1 h2 h3 h4 hzs hk.1 hk.2 hb
theorem st_mk {m k bytes eT : Nat} {zv : Value} {zs : List AV} {n : Int} {kl : IntKind} (ht : SlIs P t eT k bytes zv) (hk : (zv.cells.size == k && decide (0 < bytes)) = true) (hzs : zv.cells.toList.map AV.v = zs) (hl : mem.length = m) (hx : evA e x = .v (.int kl n)) (hy : evA e y = .v (.int kl n)) (h0 : 0 ≤ n) (hb : bytes * n.toNat ≤ 281474976710656) :
 OpST P ⟨d, .makeSlice t x y, ty, pos, af, g⟩ e mem (.own m) (mem ++ [.row eT k (List.replicate n.toNat zs)]) := nw_st (h := fun j => .own j) (nw_mk ht hk hzs hx hy h0 hb) hl
theorem ro_lit {ps : Array (Nat × Operand)} {pl : List (Nat × AV)} {n k bytes eT : Nat} {zv : Value} {els : List (List AV)} (ht : SlIs P t eT k bytes zv) (hps : evP e ps.toList = pl) (hn : pl.length = n) (hsm : (decide (n * k ≤ 2 ^ 24) && decide (0 < n * k)) = true) (hl : litA k 0 pl = some els) (hro : roO.roL els.flatten = true) :
 OpRO P ⟨d, .buildSlice t n ps, ty, pos, af, g⟩ e mem (.row k els) := by
 obtain ⟨i, h1, h2, h3, h4⟩ := ht.info
 simp only [Bool.and_eq_true, decide_eq_true_eq] at hsm
 exact ro_buildSlice hps ht.1 h1 h3 h2 hn (by omega) (by omega) hl hro
theorem nw_lit {ps : Array (Nat × Operand)} {pl : List (Nat × AV)} {n k bytes eT : Nat} {zv : Value} {els : List (List AV)} (ht : SlIs P t eT k bytes zv) (hps : evP e ps.toList = pl) (hn : pl.length = n) (hsm : (decide (n * k ≤ 2 ^ 24) && decide (0 < n * k)) = true) (hel : litA k 0 pl = some els) (hro : roO.roL els.flatten = true) :
 OpNW P ⟨d, .buildSlice t n ps, ty, pos, af, g⟩ e mem (.row eT k els) (fun j => .own j) := by
 obtain ⟨ie, hie, hz, hk, _⟩ := ht.info
 simp only [Bool.and_eq_true, decide_eq_true_eq] at hsm
 intro pb w0 θ w ev hs h
 subst hps
 have hpl : ps.toList.length = n := by rw [← hn]; simp [evP]
 obtain ⟨cs', h1, h2, h3, h4⟩ := fill_lit (θ := θ) (pr := Prot pb θ mem) (w := w) (ev := ev) (k := k) (n := 0) (cs := (Array.range (n * k)).map (zv.cells[· % zv.cells.size]!)) (fun q hq => h q.2 (by
  simp only [Op.operands, List.mem_toArray, List.mem_map]; exact ⟨q, hq, rfl⟩)) (by rw [Nat.zero_add, hpl]; simp) hel
 have hrun := run_buildSlice (P := P) w t eT n (ps.map fun (i, x) => (i, evE ev x)) cs' ie zv ht.1 hie hz (by rw [hk]; omega) (by rw [hk]; omega) (by
  rw [hk, parts_map]; simpa using h1)
 have e1 : execOp (evE ev) ⟨d, .buildSlice t n ps, ty, pos, af, g⟩ = (do pure (.value (← Instr.buildSlice t n (ps.map fun (i, x) => (i, evE ev x))))) := rfl
 rw [e1, Sem.run_bind, hrun]
 obtain ⟨hl1, hl2⟩ := litA_len hel
 have hlen : els.length = n := by rw [hl1]; exact hn
 have hfl := flatten_length hl2
 have hsz : cs'.size = n * k := by rw [h2]; simp
 have hmax : n ≤ maxLen := by
  have : 0 < k := Nat.pos_of_ne_zero (fun h => by rw [h] at hsm; simp at hsm)
  have := Nat.le_mul_of_pos_right n this
  simp only [maxLen]; omega
 refine ⟨(Ext.refl w).alloc _, (fun b hb => by have hb' : some w.heap.size = some b := hb; cases hb'; exact Nat.le_refl _), fun θ' pr k1 => ?_, fun θ' pr j hj => .own j _ hj rfl⟩
 refine ⟨cs'.toList, by rw [hlen]; exact World.ownsRow_lit w cs' n (Nat.zero_le _) hmax hsz, (fun b hb => by have hb' : some w.heap.size = some b := hb; cases hb'; exact .inl hs.base), hl2, fun i a u ha hu => ?_⟩
 have := h4 i a u ha (by rw [Nat.zero_mul, Nat.zero_add]; exact hu)
 exact (k1 a u this).ro0 (roL_get hro ha)
theorem st_lit {ps : Array (Nat × Operand)} {pl : List (Nat × AV)} {n k bytes eT m : Nat} {zv : Value} {els : List (List AV)} (ht : SlIs P t eT k bytes zv) (hl : mem.length = m) (hps : evP e ps.toList = pl) (hn : pl.length = n) (hsm : (decide (n * k ≤ 2 ^ 24) && decide (0 < n * k)) = true) (hel : litA k 0 pl = some els) (hro : roO.roL els.flatten = true) :
 OpST P ⟨d, .buildSlice t n ps, ty, pos, af, g⟩ e mem (.own m) (mem ++ [.row eT k els]) := nw_st (h := fun j => .own j) (nw_lit ht hps hn hsm hel hro) hl
theorem R1.set {θ : List Value} {pr : Nat → Prop} {w : World} {s : Tmp} {r : AV} {v : Nat → Value} (h : ∀ t, R1 θ pr w (e t) (v t)) (hr : R1 θ pr w r (v s)) : ∀ t, R1 θ pr w (upA e (some s) r t) (v t) := fun t => by
 by_cases ht : t = s
 ·subst ht; simp only [upA, if_true]; exact hr
 ·simp only [upA, if_neg ht]; exact h t
theorem aw_adopt {c : Code} {s m : Nat} (eT k : Nat) (hs : evA e (.tmp s) = .v (.slice none 0 0)) (hl : mem.length = m) (h : ∀ m1 e1, m1 = mem ++ [.row eT k []] → e1 = upA e (some s) (.own m) → AW M P N c Q e1 m1) : AW M P N c Q e mem := by
 refine fun F n hF pb w0 θ a w hf => ?_
 subst hl
 have st : Step pb w0 θ mem w (θ ++ [.slice none 0 0]) (mem ++ [.row eT k []]) w := Step.new hf.sim (Ext.refl w) _ _ (fun b hb => by cases hb) fun θ' pr _ =>
  ⟨[], World.ownsRow_nil w _ eT k, (fun b hb => by cases hb), by simp, fun i a u h => by simp at h⟩
 refine wpIn_mono (h _ _ rfl rfl F n hF pb w0 (θ ++ [.slice none 0 0]) a w ⟨hf.size, hf.dfr.step st, R1.set (fun t => st.keep _ _ (hf.sl t)) ?_, st.sim⟩) fun _ _ _ hq => hq.after st
 have := hf.sl s
 rw [show e s = .v (.slice none 0 0) from hs] at this
 rw [this.val]
 exact .own _ _ (len_at hf.sim _) rfl
end
def fsOf (P : Program) (t : TypeId) : Array Field := match P.underlying t with | some (.struct fs) => fs | _ => #[]
theorem vw_r {mem : List Ob} {n : Nat} {l : List AV} {r : AV} (h : Vw mem (.agg (l.take n)) r) : Vw mem (packA true n l) r := h
theorem vw_c {mem : List Ob} {a b : AV} {l : List AV} (h : Vw mem a b) : Vw mem (packA false 1 (a :: l)) b := h
theorem vw_ptr {mem : List Ob} {j off : Nat} {T : TypeId} {cells cells' : List AV} (hm : mem[j]? = some (.box T cells)) (h : VwL mem cells cells') : Vw mem (.ptr j off) (.ref (cells'.drop off)) := .ptr j off T cells cells' hm h.spec.1 h.spec.2
def ArIs (P : Program) (t len k : Nat) : Prop := (match P.underlying t with | some (.array n _) => some n | _ => none) = some len ∧ (match P.underlying t with | some (.array _ eT) => (P.info? eT).map (·.size) | _ => none) = some k
theorem ro_ixa {P : Program} {e : Nat → AV} {mem : List Ob} {d : Option Tmp} {ty t : TypeId} {pos : String} {af : Array Edge} {g : Option (Nat × Bool)} {x y : Operand} {j off len k : Nat} {i : Int} {kk : IntKind} (ht : ArIs P t len k) (hx : evA e x = .ptr j off) (hy : evA e y = .v (.int kk i)) (h : (decide (0 ≤ i) && decide (i < len)) = true) :
 OpRO P ⟨d, .indexAddr t x y, ty, pos, af, g⟩ e mem (.ptr j (off + i.toNat * k)) := by
 intro pb w0 θ w ev hs h'
 have h1 := h' x (by simp [Op.operands])
 have h2 := h' y (by simp [Op.operands])
 rw [hx] at h1; rw [hy] at h2
 obtain ⟨b, v, hθ, hbase, hp⟩ := h1.getPtr
 simp only [Bool.and_eq_true, decide_eq_true_eq] at h
 rw [ex_indexAddr hp h2.val, Sem.run_bind]
 obtain ⟨q1, q2⟩ := ht
 cases hu : P.underlying t with
 | none => rw [hu] at q1; cases q1
 | some dd =>
  rw [hu] at q1 q2
  cases dd with
  | array n eT =>
   simp only [Option.some.injEq] at q1 q2
   subst q1
   have hsz : ∀ w, (Go.sizeOf eT).run P w = .ok k w := fun w => by
    cases hq : P.info? eT with
    | none => rw [hq] at q2; cases q2
    | some i => rw [hq] at q2; simp at q2; simp [Go.sizeOf, typeInfo, hq, q2]
   have hr : (Instr.indexAt t (.pointer (some ⟨b, off, none⟩)) (.int kk i)).run P w = .ok (.pointer (some ⟨b, off + i.toNat * k, none⟩)) w := by
    unfold Instr.indexAt
    simp [asIntOf, run_underlying hu, Instr.sureAddr, h.1, h.2, hsz, Sem.run_bind, add_ne]
   rw [hr]
   exact ⟨.ptr j _ b v hθ hbase, Ext.refl w⟩
  | _ => cases q1
def iE (n : Int) : List AV := [.v (.int .i64 n)]
def bE (n : UInt8) : List AV := [.v (.int .u8 n.toNat)]
theorem idx_map {α : Type} [Inhabited α] {f : α → List AV} {l : List α} {k : Nat} (h : k < l.length) : (l.map f)[((k : Int)).toNat]? = some (f (l.getD k default)) := by
 simp [h, List.getD_eq_getElem?_getD]
theorem idx_mapI {α : Type} [Inhabited α] {f : α → List AV} {l : List α} {i : Int} (h : i.toNat < l.length) : (l.map f)[i.toNat]? = some (f (l.getD i.toNat default)) := by
 simp [h, List.getD_eq_getElem?_getD]
theorem idx_mapN {α : Type} [Inhabited α] {f : α → List AV} {l : List α} {k : Nat} (h : k < l.length) : (l.map f)[k]? = some (f (l.getD k default)) := by
 simp [h, List.getD_eq_getElem?_getD]
theorem idx_str {s : ByteArray} {i : Nat} (h : i < s.size) : s[i]? = some (s.data.toList.getD i default) := by
 have h' : i < s.data.size := h
 rw [getElem?_pos s i h]
 simp only [List.getD_eq_getElem?_getD, Array.getElem?_toList]
 rw [Array.getElem?_eq_getElem h']
 rfl
theorem app_m {α : Type} (f : α → List AV) (l l' : List α) : l.map f ++ l'.map f = (l ++ l').map f := List.map_append.symm
theorem m_lt {mem : List Ob} {o : Ob} {j n : Nat} (h : mem[j]? = some o) (hl : mem.length = n) : j < n := by subst hl; exact (List.getElem?_eq_some_iff.1 h).1
theorem set_iE (xs : List Int) (i : Nat) (n : Int) : (xs.map iE).set i [.v (.int .i64 n)] = (xs.set i n).map iE := by simp [List.map_set, iE]
theorem rep_iE (k : Nat) : List.replicate k [AV.v (.int .i64 0)] = (List.replicate k (0 : Int)).map iE := by simp [iE]
theorem one_iE (n : Int) : [[AV.v (.int .i64 n)]] = [n].map iE := by simp [iE]
end Go.Proofs.Ytjhcfpdgldpicaa
