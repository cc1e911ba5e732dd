/- Texts of this claim, one behind the other: lemmas for the statement. -/
import Derived.Test.YtfmjmngkgmlghaaDoorM7
/- Contracts of chapter 5: the exported functions on places, limits, curves. No conditions on a program. -/
namespace Go.Proofs.YtfmjmngkgmlghaaDoor
open Go Go.RowKit Go.Proofs
set_option linter.unusedSimpArgs false
set_option linter.unusedVariables false
def trackR (ps : List Piece) : Prop := Ok ps ∧ 1 ≤ ps.length ∧ ps.length ≤ 12
def sysR (b d v : Int) : Prop := (1 ≤ b ∧ b ≤ 3000) ∧ (0 ≤ d ∧ d ≤ 500) ∧ (0 ≤ v ∧ v ≤ 2000) ∧ d ≤ b
section
variable (nm : ByteArray) (ps : List Piece) (hp : ps.length ≤ 1000000000) (b d v : Int)
include hp
end
section
variable (nm : ByteArray) (ps : List Piece) (hok : trackR ps) (b d v : Int) (hb : sysR b d v)
include hok hb
end
section
variable (nm : ByteArray) (ps : List Piece) (hs : nm.size ≤ 1000000000) (hp : ps.length ≤ 1000000000) (b d v : Int)
include hs hp
end
end Go.Proofs.YtfmjmngkgmlghaaDoor

/- Contracts of chapter 5: runs, the fastest squares. No conditions on a program. -/
namespace Go.Proofs.YtfmjmngkgmlghaaDoor
open Go Go.RowKit Go.Proofs
set_option linter.unusedSimpArgs false
set_option linter.unusedVariables false
section
variable (nm : ByteArray) (ps : List Piece) (hs : nm.size ≤ 1000000000) (hp : ps.length ≤ 1000000000) (b d v post sq stop : Int)
include hs hp
end
end Go.Proofs.YtfmjmngkgmlghaaDoor

/- Contracts of chapter 5: the fastest squares, where a train stands. No conditions on a program. -/
namespace Go.Proofs.YtfmjmngkgmlghaaDoor
open Go Go.RowKit Go.Proofs
set_option linter.unusedSimpArgs false
set_option linter.unusedVariables false
section
variable (nm : ByteArray) (ps : List Piece) (hs : nm.size ≤ 1000000000) (hp : ps.length ≤ 1000000000) (b d v : Int)
include hs hp
end
end Go.Proofs.YtfmjmngkgmlghaaDoor

/- Contracts of chapter 5: where a train stands. No conditions on a program. -/
namespace Go.Proofs.YtfmjmngkgmlghaaDoor
open Go Go.RowKit Go.Proofs
set_option linter.unusedSimpArgs false
set_option linter.unusedVariables false
theorem Ok.len {ps : List Piece} (h : Ok ps) {i : Nat} (hi : i < ps.length) : 1 ≤ (ps.getD i default).len := by
  have h1 := h (ps.getD i default) (by rw [List.getD_eq_getElem?_getD, List.getElem?_eq_getElem hi, Option.getD_some]; exact List.getElem_mem hi)
  simp only [pieceB, withinB, Bool.and_eq_true, decide_eq_true_eq] at h1
  omega
section
variable (nm : ByteArray) (ps : List Piece) (hs : nm.size ≤ 1000000000) (hp : ps.length ≤ 1000000000) (b d v : Int)
include hs hp
end
end Go.Proofs.YtfmjmngkgmlghaaDoor

/- Contracts of chapter 5: the document's places and limits, lists compared. No conditions on a program. -/
namespace Go.Proofs.YtfmjmngkgmlghaaDoor
open Go Go.RowKit Go.Proofs
set_option linter.unusedSimpArgs false
set_option linter.unusedVariables false
end Go.Proofs.YtfmjmngkgmlghaaDoor

/- Contracts of chapter 5: copies, the law's own plant, whether the program is awake. No conditions on a program. -/
namespace Go.Proofs.YtfmjmngkgmlghaaDoor
open Go Go.RowKit Go.Proofs
set_option linter.unusedSimpArgs false
set_option linter.unusedVariables false
end Go.Proofs.YtfmjmngkgmlghaaDoor

/- Contracts of chapter 5: the document's errors of stops and states. No conditions on a program. -/
namespace Go.Proofs.YtfmjmngkgmlghaaDoor
open Go Go.RowKit Go.Proofs
set_option linter.unusedSimpArgs false
set_option linter.unusedVariables false
end Go.Proofs.YtfmjmngkgmlghaaDoor

/- A train's state as a text, written and read. No conditions on a program. -/
namespace Go.Proofs.YtfmjmngkgmlghaaDoor
open Go Go.RowKit Go.Proofs Go.Lib
set_option linter.unusedSimpArgs false
set_option linter.unusedVariables false
/-- Two numbers with a byte between. -/
def fmtR (a b : Int) (c : UInt8) : ByteArray := bs (itoa a ++ [c] ++ itoa b)
theorem fmtR_eq (a b : Int) (c : UInt8) : (⟨(itoa a).toArray⟩ : ByteArray) ++ ⟨#[c]⟩ ++ ⟨(itoa b).toArray⟩ = fmtR a b c := by
  unfold fmtR; rw [← bs_app, ← bs_app]; rfl
theorem itoa_len {n : Int} (h : In64 n) : (itoa n).length ≤ 21 := itoa_length_le n (by unfold In64 at h; omega) (by unfold In64 at h; omega)
theorem cutT_ok (tx : ByteArray) (c : UInt8) (hs : tx.size ≤ 1000000) : FnOk Tryd.prog 25 [.v (.string tx), .v (.string ⟨#[c]⟩)] (fun q => q = .tuple [.v (.string (bs (cutA tx.data.toList c))), .v (.string (bs (cutB tx.data.toList c))), .v (.bool (decide (0 ≤ indexByte tx.data.toList c)))]) :=
  cut_ok tx.data.toList c (by have := size_eq tx; omega)
theorem cutA_len (l : List UInt8) (c : UInt8) : (cutA l c).length ≤ l.length := by
  unfold cutA; split
  · rw [List.length_take]; omega
  · exact Nat.le_refl _
theorem cutB_len (l : List UInt8) (c : UInt8) : (cutB l c).length ≤ l.length := by
  unfold cutB; split
  · rw [List.length_drop]; omega
  · exact Nat.zero_le _
/-- Pieces that are two. -/
theorem pcs_yes {tx : ByteArray} {c : UInt8} (h : (pcs tx c).length = 2) : pcs tx c = [bs (cutA tx.data.toList c), bs (cutB tx.data.toList c)] := by
  obtain ⟨j, hj⟩ := Int.eq_ofNat_of_zero_le ((pcs_two tx c).2.1 h)
  exact (pcs_two tx c).1 j hj h
/-- Pieces that are not two: no two numerals. -/
theorem pcs_no {tx : ByteArray} {c : UInt8} (hc : c.toNat < 45) (D : Nat) (h : ¬ (pcs tx c).length = 2) : numK (cutB tx.data.toList c) D = false := by
  cases hk : numK (cutB tx.data.toList c) D with
  | false => rfl
  | true =>
    exfalso
    by_cases h0 : 0 ≤ indexByte tx.data.toList c
    · exact h ((pcs_two tx c).2.2 h0 (numK_byte hk hc))
    · have : cutB tx.data.toList c = [] := by unfold cutB; rw [if_neg h0]
      rw [this, numK_nil] at hk; cases hk
theorem idx_mid (a b : List UInt8) (c : UInt8) (h : ∀ k : Nat, a[k]? ≠ some c) : indexByte (a ++ [c] ++ b) c = a.length := by
  induction a with
  | nil => simp [indexByte]
  | cons x a ih =>
    have hx : ¬ x = c := fun e => h 0 (by rw [e]; rfl)
    have ih := ih fun k => by have := h (k + 1); simpa using this
    simp only [List.cons_append, indexByte, List.length_cons]
    rw [if_neg (by simpa using hx), ih, if_neg (by first | (simp; done) | (simp; omega))]
    try omega
theorem cut_fmt {a b : Int} {c : UInt8} {D : Nat} (hc : c.toNat < 45) (h : numK (itoa a) D = true) : cutA (fmtR a b c).data.toList c = itoa a ∧ cutB (fmtR a b c).data.toList c = itoa b := by
  have hi := idx_mid (itoa a) (itoa b) c (numK_byte h hc)
  have e : (fmtR a b c).data.toList = itoa a ++ [c] ++ itoa b := rfl
  rw [e]
  unfold cutA cutB
  rw [hi, if_pos (by omega), if_pos (by omega)]
  simp
section
variable (es er : Value) (hes : isE es) (her : isE er)
include hes her
end
end Go.Proofs.YtfmjmngkgmlghaaDoor

