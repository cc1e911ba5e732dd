/- The reference of pulses. -/
import Derived.Test.YtdbglpaejmhbjaaDoorN2
import Derived.Test.YtdbglpaejmhbjaaDoorW13
import Derived.Test.YtdbglpaejmhbjaaDoorSeq
import Derived.Deep.Cut
namespace Go.Proofs.YtdbglpaejmhbjaaDoor
open Go Go.RowKit Go.Proofs
set_option linter.unusedSimpArgs false
set_option linter.unusedVariables false
set_option maxRecDepth 100000 in
theorem putsD_R_Modulated_6 (V : Nat → Value) (df : List Deferred) (x0 x1 x2 x3 x4 x5 x6 x7 x8 x9 x10 x11 x12 x13 x14 x15 x16 x17 x18 x19 x20 x21 x22 x23 x24 x25 x26 x27 x28 x29 x30 x31 x32 x33 x34 x35 x36 x37 x38 x39 x40 : Value) : putsD V [some 15, some 16, some 17, some 18, some 19, some 20] 0 ⟨#[x0, x1, x2, x3, x4, x5, x6, x7, x8, x9, x10, x11, x12, x13, x14, x15, x16, x17, x18, x19, x20, x21, x22, x23, x24, x25, x26, x27, x28, x29, x30, x31, x32, x33, x34, x35, x36, x37, x38, x39, x40], df⟩ = ⟨#[x0, x1, x2, x3, x4, x5, x6, x7, x8, x9, x10, x11, x12, x13, x14, V 0, V 1, V 2, V 3, V 4, V 5, x21, x22, x23, x24, x25, x26, x27, x28, x29, x30, x31, x32, x33, x34, x35, x36, x37, x38, x39, x40], df⟩ := by kernel_rfl

section region
variable (wb wo : Nat) (w0 : World) (B4 B7 B8 : Nat) (S L : Value) (st : Int) (l : T2) (k : Nat) (sts ls : List Value)
/-- The row that has one state more. -/
def OwnA (w : World) (x : Value) : Prop := ∃ A c, x = .slice A (k + 1) c ∧ w.ownsRow wb 3 1 x (k + 1) (sts ++ [.int .i64 st])
def OwnB (w : World) (x : Value) : Prop := ∃ A c, x = .slice A (k + 1) c ∧ w.ownsRow wo 24 2 x (k + 1) (ls ++ [.int .i64 l.1, .int .i64 l.2])
/-- The facts on the values of the region. -/
def mG (j : Nat) (v : Value) (w : World) : Prop :=
  match j with
  | 0 => v = .pointer (some ⟨B7, 0, none⟩) | 1 => v = S | 2 => v = .int .i64 st
  | 3 => ∃ g, v = .slice (some ⟨g, 0, none⟩) 1 1 ∧ w0.heap.size ≤ g ∧ Bx w g 3 #[.int .i64 st]
  | 4 => OwnA wb st k sts w v
  | 5 => v = .pointer (some ⟨B7, 1, none⟩) | 6 => v = L | 7 => v = tV l
  | 8 => ∃ g, v = .slice (some ⟨g, 0, none⟩) 1 1 ∧ w0.heap.size ≤ g ∧ Bx w g 24 #[.int .i64 l.1, .int .i64 l.2]
  | 9 => OwnB wo l k ls w v
  | 10 => v = .pointer (some ⟨B7, 0, none⟩) | 12 => v = .pointer (some ⟨B7, 1, none⟩)
  | _ => True
/-- Between two operations. -/
structure mC (m : Nat → Bool) (w : World) : Prop where
  below : Below wb w0 w
  box8 : Bx w B8 24 #[.int .i64 l.1, .int .i64 l.2]
  box4 : Bx w B4 59 #[.slice none 0 0, .slice none 0 0]
  box7 : ∃ x y, Bx w B7 59 #[x, y] ∧ (m 11 = false → x = S) ∧ (m 13 = false → y = L) ∧ (m 11 = true → OwnA wb st k sts w x) ∧ (m 13 = true → OwnB wo l k ls w y)
  own1 : m 4 = false → w.ownsRow wb 3 1 S k sts
  own2 : m 9 = false → w.ownsRow wo 24 2 L k ls
  ord1 : m 11 = true → m 4 = true
  ord2 : m 13 = true → m 9 = true
  ord3 : m 4 = true → m 1 = true
  ord4 : m 9 = true → m 6 = true
/-- The values that are told beforehand. -/
def mY (j : Nat) : Option Value :=
  match j with
  | 0 => some (.pointer (some ⟨B7, 0, none⟩)) | 1 => some S | 2 => some (.int .i64 st) | 5 => some (.pointer (some ⟨B7, 1, none⟩)) | 6 => some L | 7 => some (tV l)
  | 10 => some (.pointer (some ⟨B7, 0, none⟩)) | 12 => some (.pointer (some ⟨B7, 1, none⟩)) | _ => none
variable {wb wo w0 B4 B7 B8 S L st l k sts ls} {m : Nat → Bool} {w w' : World}
theorem OwnA.alloc {x : Value} (h : OwnA wb st k sts w x) (o : Obj) : OwnA wb st k sts (w.alloc o) x := let ⟨A, c, e, r⟩ := h; ⟨A, c, e, r.alloc o⟩
theorem OwnB.alloc {x : Value} (h : OwnB wo l k ls w x) (o : Obj) : OwnB wo l k ls (w.alloc o) x := let ⟨A, c, e, r⟩ := h; ⟨A, c, e, r.alloc o⟩
theorem OwnA.grown {x : Value} {row : Option Nat} {f : TypeId} (h : OwnA wb st k sts w x) (hg : w.grownBy w' row) (hr : RowOf w row f) (hne : 3 ≠ f) : OwnA wb st k sts w' x := let ⟨A, c, e, r⟩ := h; ⟨A, c, e, own_grown r hg hr hne⟩
theorem OwnB.grown {x : Value} {row : Option Nat} {f : TypeId} (h : OwnB wo l k ls w x) (hg : w.grownBy w' row) (hr : RowOf w row f) (hne : 24 ≠ f) : OwnB wo l k ls w' x := let ⟨A, c, e, r⟩ := h; ⟨A, c, e, own_grown r hg hr hne⟩
theorem OwnA.setBox {x : Value} (h : OwnA wb st k sts w x) {B : Nat} {cs : Array Value} (hb : Bx w B 59 cs) (o : Nat) (u : Value) : OwnA wb st k sts (w.setCell ⟨B, o, none⟩ u) x := let ⟨A, c, e, r⟩ := h; ⟨A, c, e, own_setBox r hb (by decide) o u⟩
theorem OwnB.setBox {x : Value} (h : OwnB wo l k ls w x) {B : Nat} {cs : Array Value} (hb : Bx w B 59 cs) (o : Nat) (u : Value) : OwnB wo l k ls (w.setCell ⟨B, o, none⟩ u) x := let ⟨A, c, e, r⟩ := h; ⟨A, c, e, own_setBox r hb (by decide) o u⟩
theorem mC.mask (h : mC wb wo w0 B4 B7 B8 S L st l k sts ls m w) {m' : Nat → Bool} (h1 : m' 1 = true ∨ m' 1 = m 1) (h4 : m' 4 = m 4) (h6 : m' 6 = true ∨ m' 6 = m 6) (h9 : m' 9 = m 9) (h11 : m' 11 = m 11) (h13 : m' 13 = m 13) : mC wb wo w0 B4 B7 B8 S L st l k sts ls m' w :=
  ⟨h.below, h.box8, h.box4, by rw [h11, h13]; exact h.box7, by rw [h4]; exact h.own1, by rw [h9]; exact h.own2, by rw [h11, h4]; exact h.ord1, by rw [h13, h9]; exact h.ord2,
    by rw [h4]; exact fun e => h1.elim id fun e1 => e1.trans (h.ord3 e), by rw [h9]; exact fun e => h6.elim id fun e1 => e1.trans (h.ord4 e)⟩
theorem mC.alloc (h : mC wb wo w0 B4 B7 B8 S L st l k sts ls m w) (hwb : wb ≤ w0.heap.size) (o : Obj) : mC wb wo w0 B4 B7 B8 S L st l k sts ls m (w.alloc o) :=
  ⟨h.below.alloc (Nat.le_trans hwb h.below.size) o, h.box8.alloc o, h.box4.alloc o, let ⟨x, y, b, h1, h2, h3, h4⟩ := h.box7; ⟨x, y, b.alloc o, h1, h2, fun e => (h3 e).alloc o, fun e => (h4 e).alloc o⟩,
    fun e => (h.own1 e).alloc o, fun e => (h.own2 e).alloc o, h.ord1, h.ord2, h.ord3, h.ord4⟩
theorem mG.alloc {j : Nat} {u : Value} (h : mG wb wo w0 B7 S L st l k sts ls j u w) (o : Obj) : mG wb wo w0 B7 S L st l k sts ls j u (w.alloc o) := by
  match j, h with
  | 3, ⟨g, e, hgg, b⟩ => exact ⟨g, e, hgg, b.alloc o⟩
  | 8, ⟨g, e, hgg, b⟩ => exact ⟨g, e, hgg, b.alloc o⟩
  | 4, h => exact OwnA.alloc h o
  | 9, h => exact OwnB.alloc h o
  | 0, h => exact h
  | 1, h => exact h
  | 2, h => exact h
  | 5, h => exact h
  | 6, h => exact h
  | 7, h => exact h
  | 10, h => exact h
  | 11, h => exact h
  | 12, h => exact h
  | 13, h => exact h
  | _ + 14, h => exact h
theorem mC.app1 (h : mC wb wo w0 B4 B7 B8 S L st l k sts ls m w) (hm : m 4 = false) (hm1 : m 1 = true) (hg : w.grownBy w' S.ownBlock) (hb : Below wb w w') : mC wb wo w0 B4 B7 B8 S L st l k sts ls (fun j => j == 4 || m j) w' := by
  have hr := rowOf_own (h.own1 hm)
  obtain ⟨x, y, b, h1, h2, h3, h4⟩ := h.box7
  have h11 : m 11 = false := by cases e : m 11 with | false => rfl | true => have := h.ord1 e; rw [hm] at this; cases this
  exact ⟨h.below.trans hb, h.box8.grown hg hr (by decide), h.box4.grown hg hr (by decide), ⟨x, y, b.grown hg hr (by decide), by simpa using h1, by simpa using h2, by simp [h11], fun e => (h4 (by simpa using e)).grown hg hr (by decide)⟩,
    by simp, fun e => own_grown (h.own2 (by simpa using e)) hg hr (by decide), by simp, by simpa using h.ord2, by simp [hm1], by simpa using h.ord4⟩
theorem mG.app1 {j : Nat} {u : Value} (h : mG wb wo w0 B7 S L st l k sts ls j u w) (hj : ¬j = 4) (hB : mC wb wo w0 B4 B7 B8 S L st l k sts ls m w) (hm : m 4 = false) (h0 : ∀ g, S.ownBlock = some g → g < w0.heap.size) (hg : w.grownBy w' S.ownBlock) : mG wb wo w0 B7 S L st l k sts ls j u w' := by
  have hr := rowOf_own (hB.own1 hm)
  match j, h with
  | 3, ⟨g, e, hgg, b⟩ => exact ⟨g, e, hgg, b.grown_far hg (fun hs => by have := h0 g hs.symm; omega)⟩
  | 8, ⟨g, e, hgg, b⟩ => exact ⟨g, e, hgg, b.grown_far hg (fun hs => by have := h0 g hs.symm; omega)⟩
  | 4, h => exact absurd rfl hj
  | 9, h => exact OwnB.grown h hg hr (by decide)
  | 0, h => exact h
  | 1, h => exact h
  | 2, h => exact h
  | 5, h => exact h
  | 6, h => exact h
  | 7, h => exact h
  | 10, h => exact h
  | 11, h => exact h
  | 12, h => exact h
  | 13, h => exact h
  | _ + 14, h => exact h
theorem mC.app2 (h : mC wb wo w0 B4 B7 B8 S L st l k sts ls m w) (hm : m 9 = false) (hm1 : m 6 = true) (hm4 : m 4 = true) (h8 : some B8 ≠ L.ownBlock) (hg : w.grownBy w' L.ownBlock) (hb : Below wb w w') : mC wb wo w0 B4 B7 B8 S L st l k sts ls (fun j => j == 9 || m j) w' := by
  have hr := rowOf_own (h.own2 hm)
  obtain ⟨x, y, b, h1, h2, h3, h4⟩ := h.box7
  have h13 : m 13 = false := by cases e : m 13 with | false => rfl | true => have := h.ord2 e; rw [hm] at this; cases this
  exact ⟨h.below.trans hb, h.box8.grown_far hg h8, h.box4.grown hg hr (by decide), ⟨x, y, b.grown hg hr (by decide), by simpa using h1, by simpa using h2, fun e => (h3 (by simpa using e)).grown hg hr (by decide), by simp [h13]⟩,
    by simp [hm4], by simp, by simpa using h.ord1, by simp, by simpa using h.ord3, by simp [hm1]⟩
theorem mG.app2 {j : Nat} {u : Value} (h : mG wb wo w0 B7 S L st l k sts ls j u w) (hj : ¬j = 9) (hB : mC wb wo w0 B4 B7 B8 S L st l k sts ls m w) (hm : m 9 = false) (h0 : ∀ g, L.ownBlock = some g → g < w0.heap.size) (hg : w.grownBy w' L.ownBlock) : mG wb wo w0 B7 S L st l k sts ls j u w' := by
  have hr := rowOf_own (hB.own2 hm)
  match j, h with
  | 3, ⟨g, e, hgg, b⟩ => exact ⟨g, e, hgg, b.grown_far hg (fun hs => by have := h0 g hs.symm; omega)⟩
  | 8, ⟨g, e, hgg, b⟩ => exact ⟨g, e, hgg, b.grown_far hg (fun hs => by have := h0 g hs.symm; omega)⟩
  | 4, h => exact OwnA.grown h hg hr (by decide)
  | 9, h => exact absurd rfl hj
  | 0, h => exact h
  | 1, h => exact h
  | 2, h => exact h
  | 5, h => exact h
  | 6, h => exact h
  | 7, h => exact h
  | 10, h => exact h
  | 11, h => exact h
  | 12, h => exact h
  | 13, h => exact h
  | _ + 14, h => exact h
theorem mG.setBox {j : Nat} {u : Value} (h : mG wb wo w0 B7 S L st l k sts ls j u w) {cs : Array Value} (hb : Bx w B7 59 cs) (h7 : B7 < w0.heap.size) (o : Nat) (v : Value) : mG wb wo w0 B7 S L st l k sts ls j u (w.setCell ⟨B7, o, none⟩ v) := by
  match j, h with
  | 3, ⟨g, e, hgg, b⟩ => exact ⟨g, e, hgg, b.other (by simp; omega) v⟩
  | 8, ⟨g, e, hgg, b⟩ => exact ⟨g, e, hgg, b.other (by simp; omega) v⟩
  | 4, h => exact OwnA.setBox h hb o v
  | 9, h => exact OwnB.setBox h hb o v
  | 0, h => exact h
  | 1, h => exact h
  | 2, h => exact h
  | 5, h => exact h
  | 6, h => exact h
  | 7, h => exact h
  | 10, h => exact h
  | 11, h => exact h
  | 12, h => exact h
  | 13, h => exact h
  | _ + 14, h => exact h
theorem mC.store1 (h : mC wb wo w0 B4 B7 B8 S L st l k sts ls m w) (hwb : wb ≤ B7) (h74 : B4 ≠ B7) (h78 : B8 ≠ B7) (hm : m 4 = true) (v : Value) (hv : OwnA wb st k sts w v) : mC wb wo w0 B4 B7 B8 S L st l k sts ls (fun j => j == 11 || m j) (w.setCell ⟨B7, 0, none⟩ v) := by
  obtain ⟨x, y, b, h1, h2, h3, h4⟩ := h.box7
  exact ⟨h.below.setCell hwb v, h.box8.other h78 v, h.box4.other h74 v, ⟨v, y, b.set20 v, by simp, by simpa using h2, fun _ => hv.setBox b 0 v, fun e => (h4 (by simpa using e)).setBox b 0 v⟩,
    fun e => own_setBox (h.own1 (by simpa using e)) b (by decide) 0 v, fun e => own_setBox (h.own2 (by simpa using e)) b (by decide) 0 v, by simp [hm], by simpa using h.ord2, by simpa using h.ord3, by simpa using h.ord4⟩
theorem mC.store2 (h : mC wb wo w0 B4 B7 B8 S L st l k sts ls m w) (hwb : wb ≤ B7) (h74 : B4 ≠ B7) (h78 : B8 ≠ B7) (hm : m 9 = true) (v : Value) (hv : OwnB wo l k ls w v) : mC wb wo w0 B4 B7 B8 S L st l k sts ls (fun j => j == 13 || m j) (w.setCell ⟨B7, 1, none⟩ v) := by
  obtain ⟨x, y, b, h1, h2, h3, h4⟩ := h.box7
  exact ⟨h.below.setCell hwb v, h.box8.other h78 v, h.box4.other h74 v, ⟨x, v, b.set21 v, by simpa using h1, by simp, fun e => (h3 (by simpa using e)).setBox b 1 v, fun _ => hv.setBox b 1 v⟩,
    fun e => own_setBox (h.own1 (by simpa using e)) b (by decide) 1 v, fun e => own_setBox (h.own2 (by simpa using e)) b (by decide) 1 v, by simpa using h.ord1, by simp [hm], by simpa using h.ord3, by simpa using h.ord4⟩
end region

/-- The reference's pulses. -/
def rmodGo (s : Int) : T2 → List T2 → List (Int × T2)
  | _, [] => []
  | l, c :: cs => (nearG s (addW l c) 7, restW s (addW l c) (nearG s (addW l c) 7)) :: rmodGo s (restW s (addW l c) (nearG s (addW l c) 7)) cs
set_option maxRecDepth 100000 in
set_option maxHeartbeats 1000000 in
theorem rModulated_any (s : Int) (cs : List T2) (a : Option Addr) (n c : Nat) (w : World) (hl : cs.length = n) (hn : n ≤ 1000) (hr : Rd w 2 a n (cells2 cs)) :
    Calls Tryd.prog 63 #[.int .i64 s, .slice a n c] w fun e w' => ∃ A1 c1 A2 c2, e = .returned (.agg #[.slice A1 n c1, .slice A2 n c2]) ∧
      w'.ownsRow w.heap.size 3 1 (.slice A1 n c1) n (ints ((rmodGo s (0, 0) cs).map (·.1))) ∧ w'.ownsRow w.heap.size 24 2 (.slice A2 n c2) n (cells2 ((rmodGo s (0, 0) cs).map (·.2))) ∧ Ext w w' := by
  have HL := Lib.hid hl
  clear hl
  go_enter Tryd.func63, Tryd.ntmps63
  go_wp2
  obtain ⟨B7, hB7⟩ : ∃ B, w.heap.size + 1 = B := ⟨_, rfl⟩
  obtain ⟨B8, hB8⟩ : ∃ B, w.heap.size + 1 + 1 = B := ⟨_, rfl⟩
  rw [hB8, hB7]
  have hb7 : Bx (((w.alloc (.cells #[.slice none 0 0, .slice none 0 0] 59)).alloc (.cells #[.slice none 0 0, .slice none 0 0] 59)).alloc (.cells #[.int .i64 0, .int .i64 0] 24)) B7 59 #[.slice none 0 0, .slice none 0 0] := (Bx.new_at _ _ (by simp; omega)).alloc _
  have hb8 : Bx (((w.alloc (.cells #[.slice none 0 0, .slice none 0 0] 59)).alloc (.cells #[.slice none 0 0, .slice none 0 0] 59)).alloc (.cells #[.int .i64 0, .int .i64 0] 24)) B8 24 #[.int .i64 0, .int .i64 0] := Bx.new_at _ _ (by simp; omega)
  have hb4 : Bx (((w.alloc (.cells #[.slice none 0 0, .slice none 0 0] 59)).alloc (.cells #[.slice none 0 0, .slice none 0 0] 59)).alloc (.cells #[.int .i64 0, .int .i64 0] 24)) w.heap.size 59 #[.slice none 0 0, .slice none 0 0] := ((Bx.new w _ _).alloc _).alloc _
  have hxw := (((Ext.refl w).alloc (.cells #[.slice none 0 0, .slice none 0 0] 59)).alloc (.cells #[.slice none 0 0, .slice none 0 0] 59)).alloc (.cells #[.int .i64 0, .int .i64 0] 24)
  generalize (((w.alloc (.cells #[.slice none 0 0, .slice none 0 0] 59)).alloc (.cells #[.slice none 0 0, .slice none 0 0] 59)).alloc (.cells #[.int .i64 0, .int .i64 0] 24)) = W1 at *
  have hne1 : w.heap.size < B7 := by omega
  have hne2 : B7 < B8 := by omega
  clear hB7 hB8
  go_loopw [7] (fun i wr => ∃ (k : Nat) (lf : T2) (dn : List (Int × T2)) (S L : Value), k ≤ n ∧ i = .int .i64 k ∧ dn.length = k ∧ Hid (rmodGo s (0, 0) cs = dn ++ rmodGo s lf (cs.drop k)) ∧
      Bx wr B7 59 #[S, L] ∧ Bx wr B8 24 #[.int .i64 lf.1, .int .i64 lf.2] ∧ Bx wr w.heap.size 59 #[.slice none 0 0, .slice none 0 0] ∧
      wr.ownsRow w.heap.size 3 1 S k (ints (dn.map (·.1))) ∧ wr.ownsRow (B8 + 1) 24 2 L k (cells2 (dn.map (·.2))) ∧ Ext w wr) (fun i _ => n - (intOf i).toNat)
  case atStart => exact ⟨0, (0, 0), [], .slice none 0 0, .slice none 0 0, Nat.zero_le _, rfl, rfl, rfl, hb7, hb8, hb4, World.ownsRow_nil _ _ _ _, World.ownsRow_nil _ _ _ _, hxw⟩
  case round =>
    obtain ⟨k, lf, dn, S, L, hk, rfl, hdn, hd, hb7, hb8, hb4, ho1, ho2, hx⟩ := hrel
    obtain ⟨A1, c1, rfl, hc1⟩ := own_form ho1
    obtain ⟨A2, c2, rfl, hc2⟩ := own_form ho2
    obtain ⟨y0, y1, y2, y3, y4⟩ := hb7.at2
    obtain ⟨z0, z1, z2, z3, z4⟩ := hb8.at2
    by_cases hlt : k < n
    · obtain ⟨b, o, rfl, hrow⟩ := (hr.ext hx).2 (by omega)
      have hbb := hrow.1
      have hkl : k < cs.length := by rw [HL.out]; exact hlt
      have he0 := hrow.at (cells2_get0 hkl)
      have he1 := hrow.at' (cells2_get1 hkl)
      have hwi : withinB (nearG s (addW lf cs[k]) 7) 0 7 = true := (nearG_bd s (addW lf cs[k]) 7 (by omega)).1
      have hsx : Hid (rmodGo s lf (cs.drop k) = (nearG s (addW lf cs[k]) 7, restW s (addW lf cs[k]) (nearG s (addW lf cs[k]) 7)) :: rmodGo s (restW s (addW lf cs[k]) (nearG s (addW lf cs[k]) 7)) (cs.drop (k + 1))) := by
        show _ = _
        rw [List.drop_eq_getElem_cons hkl]; rfl
      have HA := Lib.hid (bTAdd_any lf cs[k])
      have HN := Lib.hid (rNearest_any s (addW lf cs[k]))
      have HR := Lib.hid (fun w1 => rrest_any s (addW lf cs[k]) (nearG s (addW lf cs[k]) 7) w1 hwi)
      clear hwi
      generalize hv : addW lf cs[k] = v at *
      generalize nearG s v 7 = st at *
      generalize restW s v st = lt at *
      have HV := Lib.hid hv
      clear hv
      obtain ⟨q, hq⟩ : ∃ q : Int × T2, q = (st, lt) := ⟨_, rfl⟩
      go_wp2
      apply wp_region_env 6 [SF.is _, SF.is _, SF.is _, SF.is _, SF.is _, SF.is _] [some 15, some 16, some 17, some 18, some 19, some 20] (by kernel_rfl) (by kernel_rfl) (by kernel_rfl) (by kernel_rfl) (fun V e0 hSl => ?steps) (fun V w5 hx_w5 hf_w5 => ?tail)
      case steps =>
        have he6 := hSl 6
        have he1 := hSl 1
        have he7 := hSl 7
        clear hSl
        simp only [Array.getD_eq_getD_getElem?, List.getElem?_toArray, List.getElem?_cons_succ, List.getElem?_cons_zero, Option.getD_some] at he6 he1 he7
        (refine stepE_is _ rfl rfl (ex_load he6) ?_ ?_; (· intro w2 hx; obtain ⟨hc, hfz⟩ := bcell hx; go_simp; (try simp only [wrap_eq]); exact isF (Ext.refl _)))
        refine stepE_val rfl rfl (ex_move he1) ?_
        refine stepE_val rfl rfl (ex_move he7) ?_
        (refine stepE_is _ rfl rfl (ex_indexAddr (ev_m rfl ev_h) ev_h) ?_ ?_; (· intro w2 hx; go_simp; (try simp only [wrap_eq]); exact isF (Ext.refl _)))
        (refine stepE_is _ rfl rfl (ex_load ev_h) ?_ ?_; (· intro w2 hx; obtain ⟨hc, hfz⟩ := bcell hx; go_simp; (try simp only [wrap_eq]); exact isF (Ext.refl _)))
        (refine stepE_is _ rfl rfl (ex_call rfl (ex_arg (ev_m rfl (ev_m rfl (ev_m rfl (ev_m rfl ev_h)))) (ex_arg ev_h ex_arg0))) ?_ ?_; (· intro w2 hx; refine rel_call (fun _ _ => by kernel_rfl) ?_; (first | ((with_reducible refine CallTo.of (HA.out _) ?_); exact fun _ _ => rfl) | ((with_reducible refine CallTo.of (bTAdd_any _ _ _) ?_); exact fun _ _ => rfl) | ((with_reducible refine CallTo.of (bTAdd_any _ (_, _) _) ?_); exact fun _ _ => rfl))))
        exact trivial
      case tail =>
      rw [putsD_R_Modulated_6]
      clear hf_w5; have hf_w5 : True := trivial
      simp only [List.take, Region.binds, mode_text, mode_gc, if_true, true_and, Bool.false_eq_true, if_false, List.drop, StepsU, StepsG, putsAll, FactsAt, Fs, val, List.getD_cons_zero, List.getD_cons_succ, List.getD_nil, SF.is, SF.rd, SF.any, SF.box, Option.getD_some, Option.getD_none, Act.put, List.setIfInBounds_toArray, List.set_cons_zero, List.set_cons_succ] at ⊢
      obtain ⟨hc_w5, hfz_w5⟩ := bcell hx_w5
      have hb7a := hb7.ext hx_w5
      have hb8a := hb8.ext hx_w5
      have hb4a := hb4.ext hx_w5
      have ho1a := own_ext ho1 hx_w5
      have ho2a := own_ext ho2 hx_w5
      clear hc_w5 hfz_w5 hb7 hb8 hb4 ho1 ho2 y0 y1 y2 y3 y4 z0 z1 z2 z3 z4 hbb he0 he1 hrow
      have z0 : _ = some _ := hb8a.cell 0; have z1 : _ = some _ := hb8a.cell 1; have zf0 := hb8a.frz 0; have zf1 := hb8a.frz 1; have zl := hb8a.lt
      go_upto_region 7 with fail
      have hL8 : (Value.slice A2 k c2).ownBlock ≠ some B8 := fun e => by have := (ho2a.lt _ e).1; omega
      have o1 := own_setBox (own_setBox ho1a hb8a (by decide) 0 (.int .i64 v.1)) (hb8a.set20 (.int .i64 v.1)) (by decide) 1 (.int .i64 v.2)
      have o2 := ownsRow_setCell_other (a := ⟨B8, 1, none⟩) (ownsRow_setCell_other (a := ⟨B8, 0, none⟩) ho2a hL8 (.int .i64 v.1)) hL8 (.int .i64 v.2)
      have b8 := hb8a.set2 (.int .i64 v.1) (.int .i64 v.2)
      have b7 := (hb7a.other (p := ⟨B8, 0, none⟩) (by simp; omega) (.int .i64 v.1)).other (p := ⟨B8, 1, none⟩) (by simp; omega) (.int .i64 v.2)
      have b4 := (hb4a.other (p := ⟨B8, 0, none⟩) (by simp; omega) (.int .i64 v.1)).other (p := ⟨B8, 1, none⟩) (by simp; omega) (.int .i64 v.2)
      have hx0 : Ext w ((w5.setCell ⟨B8, 0, none⟩ (.int .i64 v.1)).setCell ⟨B8, 1, none⟩ (.int .i64 v.2)) := by ((repeat' (first | with_reducible exact Ext.refl _ | with_reducible assumption | with_reducible exact Ext.one _ | with_reducible refine Ext.alloc ?_ _ | with_reducible refine Ext.setCell ?_ ?_ _ | with_reducible refine Ext.drew ?_ | ((with_reducible apply Ext.after'); (with_reducible assumption)))) <;> (try simp) <;> omega)
      generalize ((w5.setCell ⟨B8, 0, none⟩ (.int .i64 v.1)).setCell ⟨B8, 1, none⟩ (.int .i64 v.2)) = w7 at *
      clear z0 z1 zf0 zf1 zl hb7a hb8a hb4a ho1a ho2a
      have z0 : _ = some _ := b8.cell 0; have z1 : _ = some _ := b8.cell 1; have zf0 := b8.frz 0; have zf1 := b8.frz 1; have zl := b8.lt
      go_upto_region 9 with (first | (go_at_call 62; (with_reducible refine (HN.out _).mono ?_); rintro e w8 ⟨rfl, hx8⟩; obtain ⟨hc8, hf8⟩ := bcell hx8; have hq8_0 : B8 < w8.heap.size := (by have := hx8.size; (try simp at this); omega); have hq8_1 : B7 < w8.heap.size := (by have := hx8.size; (try simp at this); omega); have hq8_2 : w.heap.size < w8.heap.size := (by have := hx8.size; (try simp at this); omega)) | (go_at_call 114; (with_reducible refine (HR.out _).mono ?_); rintro e w9 ⟨rfl, hx9⟩; obtain ⟨hc9, hf9⟩ := bcell hx9; have hq9_0 : B8 < w9.heap.size := (by have := hx9.size; (try simp at this); omega); have hq9_1 : B7 < w9.heap.size := (by have := hx9.size; (try simp at this); omega); have hq9_2 : w.heap.size < w9.heap.size := (by have := hx9.size; (try simp at this); omega)))
      have hx79 : Ext w7 w9 := by ((repeat' (first | with_reducible exact Ext.refl _ | with_reducible assumption | with_reducible exact Ext.one _ | with_reducible refine Ext.alloc ?_ _ | with_reducible refine Ext.setCell ?_ ?_ _ | with_reducible refine Ext.drew ?_ | ((with_reducible apply Ext.after'); (with_reducible assumption)))) <;> (try simp) <;> omega)
      have o1b := own_setBox (own_setBox (own_ext o1 hx79) (b8.ext hx79) (by decide) 0 (.int .i64 lt.1)) ((b8.ext hx79).set20 (.int .i64 lt.1)) (by decide) 1 (.int .i64 lt.2)
      have o2b := ownsRow_setCell_other (a := ⟨B8, 1, none⟩) (ownsRow_setCell_other (a := ⟨B8, 0, none⟩) (own_ext o2 hx79) hL8 (.int .i64 lt.1)) hL8 (.int .i64 lt.2)
      have b8b := (b8.ext hx79).set2 (.int .i64 lt.1) (.int .i64 lt.2)
      have b7b := ((b7.ext hx79).other (p := ⟨B8, 0, none⟩) (by simp; omega) (.int .i64 lt.1)).other (p := ⟨B8, 1, none⟩) (by simp; omega) (.int .i64 lt.2)
      have b4b := ((b4.ext hx79).other (p := ⟨B8, 0, none⟩) (by simp; omega) (.int .i64 lt.1)).other (p := ⟨B8, 1, none⟩) (by simp; omega) (.int .i64 lt.2)
      have hx0b : Ext w ((w9.setCell ⟨B8, 0, none⟩ (.int .i64 lt.1)).setCell ⟨B8, 1, none⟩ (.int .i64 lt.2)) := by ((repeat' (first | with_reducible exact Ext.refl _ | with_reducible assumption | with_reducible exact Ext.one _ | with_reducible refine Ext.alloc ?_ _ | with_reducible refine Ext.setCell ?_ ?_ _ | with_reducible refine Ext.drew ?_ | ((with_reducible apply Ext.after'); (with_reducible assumption)))) <;> (try simp) <;> omega)
      generalize ((w9.setCell ⟨B8, 0, none⟩ (.int .i64 lt.1)).setCell ⟨B8, 1, none⟩ (.int .i64 lt.2)) = w7b at *
      clear z0 z1 zf0 zf1 zl b7 b8 b4 o1 o2 hx0 hx79 hc8 hf8 hc9 hf9
      have hq1 : st = q.1 := by rw [hq]
      have hq2 : lt = q.2 := by rw [hq]
      subst hq1
      subst hq2
      clear hq
      refine wp_region_rel 14 (mC w.heap.size (B8 + 1) w7b w.heap.size B7 B8 (.slice A1 k c1) (.slice A2 k c2) q.1 q.2 k (ints (dn.map (·.1))) (cells2 (dn.map (·.2)))) (mG w.heap.size (B8 + 1) w7b B7 (.slice A1 k c1) (.slice A2 k c2) q.1 q.2 k (ints (dn.map (·.1))) (cells2 (dn.map (·.2))))
        (mY B7 (.slice A1 k c1) (.slice A2 k c2) q.1 q.2) (by kernel_rfl) (by kernel_rfl) ?hb ?hex ?steps ?tail
      case hb =>
        exact ⟨Below.mono (Ext.one w7b) hx0b.size, b8b, b4b, ⟨_, _, b7b, fun _ => rfl, fun _ => rfl, fun e => (by cases e), fun e => (by cases e)⟩, fun _ => o1b, fun _ => o2b, fun e => (by cases e), fun e => (by cases e), fun e => (by cases e), fun e => (by cases e)⟩
      case hex =>
        intro j v w8 h c hc
        match j, h, hc with
        | 0, h, hc => exact h.trans (Option.some.inj hc)
        | 1, h, hc => exact h.trans (Option.some.inj hc)
        | 2, h, hc => exact h.trans (Option.some.inj hc)
        | 5, h, hc => exact h.trans (Option.some.inj hc)
        | 6, h, hc => exact h.trans (Option.some.inj hc)
        | 7, h, hc => exact h.trans (Option.some.inj hc)
        | 10, h, hc => exact h.trans (Option.some.inj hc)
        | 12, h, hc => exact h.trans (Option.some.inj hc)
        | 3, h, hc => cases hc
        | 4, h, hc => cases hc
        | 8, h, hc => cases hc
        | 9, h, hc => cases hc
        | 11, h, hc => cases hc
        | 13, h, hc => cases hc
        | _ + 14, h, hc => cases hc
      case tail =>
        intro V w8 hV hB hf
        simp only [List.take, List.drop, putsAll, Act.put, List.setIfInBounds_toArray, List.set_cons_zero, List.set_cons_succ, Nat.reduceAdd]
        obtain ⟨x, y, hb7, -, -, h3, h4⟩ := hB.box7
        obtain ⟨A3, c3, rfl, o3⟩ := h3 rfl
        obtain ⟨A4, c4, rfl, o4⟩ := h4 rfl
        have hb8 := hB.box8
        have hb4 := hB.box4
        have hx8 : Ext w w8 := hx0b.trans' hB.below
        clear hV hB hf h3 h4
        go_wp2
        go_roundw
        case rel =>
          refine ⟨k + 1, q.2, dn ++ [q], .slice A3 (k + 1) c3, .slice A4 (k + 1) c4, by omega, by go_num, by simp [hdn], ?_, hb7, hb8, hb4, ?_, ?_, hx8⟩
          · show _ = _
            rw [hd.out, hsx.out]; simp
          · have e : ints ((dn ++ [q]).map (·.1)) = ints (dn.map (·.1)) ++ [.int .i64 q.1] := by simp [ints]
            rw [e]; exact o3
          · have e : cells2 ((dn ++ [q]).map (·.2)) = cells2 (dn.map (·.2)) ++ [.int .i64 q.2.1, .int .i64 q.2.2] := by rw [List.map_append, cells2_append]; rfl
            rw [e]; exact o4
        case measure => simp [intOf]; omega
      case steps =>
        intro V hV
        have v0 := hV 0 _ rfl
        have v1 := hV 1 _ rfl
        have v2 := hV 2 _ rfl
        have v5 := hV 5 _ rfl
        have v6 := hV 6 _ rfl
        have v7 := hV 7 _ rfl
        have v10 := hV 10 _ rfl
        have v12 := hV 12 _ rfl
        simp only [List.take, Steps, Region.binds, mode_text, mode_gc, if_true, true_and, Bool.false_eq_true, if_false, putsAll, FactsAt, FactsOn, Act.put, List.setIfInBounds_toArray, List.set_cons_zero, List.set_cons_succ, v0, v1, v2, v5, v6, v7, v10, v12, Nat.reduceAdd]
        refine ⟨?_, ?_, ?_, ?_, ?_, ?_, ?_, ?_, ?_, ?_, ?_, ?_, ?_, ?_, trivial⟩ <;> intro m w8 hm hon hB hf
        case refine_1 => go_simp; exact ⟨rfl, hB.mask (by simp) (by simp) (by simp) (by simp) (by simp) (by simp)⟩
        case refine_2 =>
          have h11 : m 11 = false := by cases e : m 11 with | false => rfl | true => (have := hB.ord3 (hB.ord1 e); rw [hm] at this; cases this)
          obtain ⟨x, y, hb, h1, h2, h3, h4⟩ := hB.box7
          obtain rfl := h1 h11
          obtain ⟨r0, r1, -⟩ := hb.at2
          go_simp
          exact ⟨rfl, hB.mask (by simp) (by simp) (by simp) (by simp) (by simp) (by simp)⟩
        case refine_3 => go_simp; exact ⟨rfl, hB.mask (by simp) (by simp) (by simp) (by simp) (by simp) (by simp)⟩
        case refine_6 => go_simp; exact ⟨rfl, hB.mask (by simp) (by simp) (by simp) (by simp) (by simp) (by simp)⟩
        case refine_11 => go_simp; exact ⟨rfl, hB.mask (by simp) (by simp) (by simp) (by simp) (by simp) (by simp)⟩
        case refine_13 => go_simp; exact ⟨rfl, hB.mask (by simp) (by simp) (by simp) (by simp) (by simp) (by simp)⟩
        case refine_7 =>
          have h13 : m 13 = false := by cases e : m 13 with | false => rfl | true => (have := hB.ord4 (hB.ord2 e); rw [hm] at this; cases this)
          obtain ⟨x, y, hb, h1, h2, h3, h4⟩ := hB.box7
          obtain rfl := h2 h13
          obtain ⟨r0, r1, -⟩ := hb.at2
          go_simp
          exact ⟨rfl, hB.mask (by simp) (by simp) (by simp) (by simp) (by simp) (by simp)⟩
        case refine_8 =>
          obtain ⟨r0, r1, -⟩ := hB.box8.at2
          go_simp
          exact ⟨rfl, hB.mask (by simp) (by simp) (by simp) (by simp) (by simp) (by simp)⟩
        case refine_4 =>
          go_simp
          exact ⟨⟨_, rfl, hB.below.size, Bx.new _ _ _⟩, (hB.mask (by simp) (by simp) (by simp) (by simp) (by simp) (by simp)).alloc hx0b.size _, fun j u _ _ h => h.alloc _⟩
        case refine_9 =>
          go_simp
          exact ⟨⟨_, rfl, hB.below.size, Bx.new _ _ _⟩, (hB.mask (by simp) (by simp) (by simp) (by simp) (by simp) (by simp)).alloc hx0b.size _, fun j u _ _ h => h.alloc _⟩
        case refine_5 =>
          obtain ⟨-, ⟨g, e3, hg3, b3⟩, -⟩ := hf
          simp only [Region.wanted, if_true]
          obtain ⟨i0, hi, hz0, hz1, hz2⟩ := info_parts info1
          have h11 : m 1 = true := by simpa [FactsOn] using hon.1
          refine rel_app (.tmp 29) (.tmp 31) _ rfl i0 (.int .i64 0) 8 Tryd.underlying40 hi hz0 hz1 hz2 rfl (by omega) rfl (hB.own1 hm) (some ⟨g, 0, none⟩) 1 1 [.int .i64 q.1] e3 (b3.rd 1 1 rfl) (by simp [Value.oneCell']) (by simp only [maxLen]; omega) (by omega) (Nat.le_trans hx0b.size hB.below.size) ?_
          intro A' c' w9 hc' hown hbw hgr
          exact ⟨⟨A', c', rfl, hown⟩, hB.app1 hm h11 hgr hbw, fun j u hj _ h => h.app1 hj hB hm (fun g hg => (o1b.lt g hg).2) hgr⟩
        case refine_10 =>
          obtain ⟨-, ⟨g, e3, hg3, b3⟩, -⟩ := hf
          simp only [Region.wanted, if_true]
          obtain ⟨i0, hi, hz0, hz1, hz2⟩ := info_parts info2
          have h11 : m 6 = true := hon.1
          have h12 : m 4 = true := hon.2.2.1
          refine rel_app (.tmp 34) (.tmp 36) _ rfl i0 (.agg #[.int .i64 0, .int .i64 0]) 16 Tryd.underlying22 hi hz0 hz1 hz2 rfl (by omega) rfl (hB.own2 hm) (some ⟨g, 0, none⟩) 1 1 [.int .i64 q.2.1, .int .i64 q.2.2] e3 (b3.rd 2 1 rfl) (by simp [Value.oneCell']) (by simp only [maxLen]; omega) (by omega) (by have := b8b.lt; have := hB.below.size; omega) ?_
          intro A' c' w9 hc' hown hbw hgr
          exact ⟨⟨A', c', rfl, hown⟩, hB.app2 hm h11 h12 (fun e => by have := (o2b.lt _ e.symm).1; omega) hgr (hbw.mono (by omega)), fun j u hj _ h => h.app2 hj hB hm (fun g hg => (o2b.lt g hg).2) hgr⟩
        case refine_12 =>
          obtain ⟨-, ⟨A', c', e4, ho4⟩, -⟩ := hf
          have h11 : m 4 = true := hon.2.1
          obtain ⟨x, y, hb, h1, h2, h3, h4⟩ := hB.box7
          obtain ⟨r0, r1, r2, r3, r4⟩ := hb.at2
          rw [e4]
          rw [e4] at ho4
          go_simp
          exact ⟨trivial, hB.store1 (by omega) (by omega) (by omega) h11 _ ⟨A', c', rfl, ho4⟩, fun j u _ _ h => h.setBox hb b7b.lt _ _⟩
        case refine_14 =>
          obtain ⟨-, ⟨A', c', e4, ho4⟩, -⟩ := hf
          have h11 : m 9 = true := hon.2.1
          obtain ⟨x, y, hb, h1, h2, h3, h4⟩ := hB.box7
          obtain ⟨r0, r1, r2, r3, r4⟩ := hb.at2
          rw [e4]
          rw [e4] at ho4
          go_simp
          exact ⟨trivial, hB.store2 (by omega) (by omega) (by omega) h11 _ ⟨A', c', rfl, ho4⟩, fun j u _ _ h => h.setBox hb b7b.lt _ _⟩
    · obtain ⟨r0, r1, r2, r3, r4⟩ := hb4.at2
      go_wp2
      obtain rfl : k = n := by omega
      obtain ⟨q0, q1, -⟩ := (hb4.set2 (.slice A1 k c1) (.slice A2 k c2)).at2
      have e : rmodGo s (0, 0) cs = dn := by rw [hd.out, List.drop_eq_nil_of_le (by rw [HL.out]; exact Nat.le_refl _)]; simp [rmodGo]
      rw [e]
      refine bodyPost_ret (v := .agg #[.slice A1 k c1, .slice A2 k c2]) (by simp [results, Tryd.results63, go_sem, q0, q1]) rfl ⟨A1, c1, A2, c2, rfl, ?_, ?_, by ((repeat' (first | with_reducible exact Ext.refl _ | with_reducible assumption | with_reducible exact Ext.one _ | with_reducible refine Ext.alloc ?_ _ | with_reducible refine Ext.setCell ?_ ?_ _ | with_reducible refine Ext.drew ?_ | ((with_reducible apply Ext.after'); (with_reducible assumption)))) <;> (try simp) <;> omega)⟩
      · exact own_setBox (own_setBox ho1 hb4 (by decide) 0 _) (hb4.set20 _) (by decide) 1 _
      · exact (own_setBox (own_setBox ho2 hb4 (by decide) 0 _) (hb4.set20 _) (by decide) 1 _).mono_base (by omega)
end Go.Proofs.YtdbglpaejmhbjaaDoor
