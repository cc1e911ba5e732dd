/- Texts of this claim, one behind the other: lemmas for the statement. -/
import Derived.Test.YtfmjmngkgmlghaaDoorM1
import Derived.Test.YtfmjmngkgmlghaaDoorA17
import Derived.Test.YtfmjmngkgmlghaaDoorProg
import Derived.Test.YtfmjmngkgmlghaaDoorLib
import Derived.Test.YtfmjmngkgmlghaaDoorBox
import Derived.Deep.QuietTactic
import Derived.BigQuiet
import Derived.KernelRfl
import Derived.Lib.Hide
/- Contracts of chapter 3: orders and samples, the exported functions and the document's. No conditions on a program. -/
namespace Go.Proofs.YtfmjmngkgmlghaaDoor
open Go Go.RowKit Go.Proofs
set_option linter.unusedSimpArgs false
set_option linter.unusedVariables false

end Go.Proofs.YtfmjmngkgmlghaaDoor

/- Contracts of chapter 3: energy, samples of orders, the document's orders. No conditions on a program. -/
namespace Go.Proofs.YtfmjmngkgmlghaaDoor
open Go Go.RowKit Go.Proofs
set_option linter.unusedSimpArgs false
set_option linter.unusedVariables false
end Go.Proofs.YtfmjmngkgmlghaaDoor

/- Contracts of chapter 3: samples out of orders. No conditions on a program. -/
namespace Go.Proofs.YtfmjmngkgmlghaaDoor
open Go Go.RowKit Go.Proofs
set_option linter.unusedSimpArgs false
set_option linter.unusedVariables false

end Go.Proofs.YtfmjmngkgmlghaaDoor

/- Contracts of chapter 3: tracks, trains, forces, turned vectors. No conditions on a program. -/
namespace Go.Proofs.YtfmjmngkgmlghaaDoor
open Go Go.RowKit Go.Proofs
set_option linter.unusedSimpArgs false
set_option linter.unusedVariables false
/-! ### Overlaps -/
end Go.Proofs.YtfmjmngkgmlghaaDoor

/- Walks: errors, ranges, searches by a function; each for all arguments. -/
namespace Go.Proofs.YtfmjmngkgmlghaaDoor
open Go Go.RowKit Go.Proofs

def ints (l : List Int) : List Value := l.map (Value.int .i64)

/-! ### searches -/
abbrev T2 := Int × Int
/-- A vector as a value. -/
abbrev tV_ (x : T2) : Value := .agg #[.int .i64 x.1, .int .i64 x.2]

/-- The place of the first one that is so, from k on. -/
def idx {α : Type} (p : α → Bool) : List α → Nat → Int
  | [], _ => -1
  | x :: l, k => if p x then (k : Int) else idx p l (k + 1)

end Go.Proofs.YtfmjmngkgmlghaaDoor

/- Walks: the arithmetic of vectors and the small functions of errors; each for all arguments, with Go's wrapped sums. -/
namespace Go.Proofs.YtfmjmngkgmlghaaDoor
open Go Go.RowKit Go.Proofs
set_option linter.unusedSimpArgs false
set_option linter.unusedVariables false

/-! ### what they compute, with Go's wrapped sums -/
end Go.Proofs.YtfmjmngkgmlghaaDoor

/- Walks: the errors of numbers, vectors, lists of them; the forces of the reference. -/
namespace Go.Proofs.YtfmjmngkgmlghaaDoor
open Go Go.RowKit Go.Proofs
set_option linter.unusedSimpArgs false
set_option linter.unusedVariables false

end Go.Proofs.YtfmjmngkgmlghaaDoor

/- Walks: searches and errors of lists, tracks. -/
namespace Go.Proofs.YtfmjmngkgmlghaaDoor
open Go Go.RowKit Go.Proofs
set_option linter.unusedSimpArgs false
set_option linter.unusedVariables false

theorem hcf (g : Nat) (h : ∀ (args : Array Value) (w : World), (callFunc g args).run Tryd.prog w = .ok (.enter g args) w) : ∀ (args : Array Value) (w : World), (callFunc g args).run Tryd.prog w = .ok (.enter g args) w := h

end Go.Proofs.YtfmjmngkgmlghaaDoor

