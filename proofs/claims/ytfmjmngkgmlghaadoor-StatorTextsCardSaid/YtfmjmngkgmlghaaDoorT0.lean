/- Facts on types, fields and functions of the program that several texts need. -/
import Derived.Test.YtfmjmngkgmlghaaDoorProg
import Derived.Test.YtfmjmngkgmlghaaDoorA1
import Derived.Test.YtfmjmngkgmlghaaDoorA2
import Derived.Test.YtfmjmngkgmlghaaDoorA4
import Derived.Test.YtfmjmngkgmlghaaDoorA5
import Derived.Test.YtfmjmngkgmlghaaDoorA6
import Derived.Test.YtfmjmngkgmlghaaDoorA3
import Derived.Test.YtfmjmngkgmlghaaDoorA7
import Derived.Test.YtfmjmngkgmlghaaDoorA8
import Derived.Test.YtfmjmngkgmlghaaDoorA9
import Derived.Test.YtfmjmngkgmlghaaDoorA10
import Derived.Test.YtfmjmngkgmlghaaDoorA11
import Derived.Test.YtfmjmngkgmlghaaDoorA12
import Derived.Test.YtfmjmngkgmlghaaDoorA13
import Derived.Test.YtfmjmngkgmlghaaDoorA14
import Derived.Test.YtfmjmngkgmlghaaDoorA15
import Derived.Test.YtfmjmngkgmlghaaDoorA16
import Derived.Test.YtfmjmngkgmlghaaDoorA17
import Derived.Test.YtfmjmngkgmlghaaDoorA20
import Derived.Test.YtfmjmngkgmlghaaDoorA22
import Derived.Test.YtfmjmngkgmlghaaDoorA23
import Derived.Test.YtfmjmngkgmlghaaDoorA24
import Derived.Test.YtfmjmngkgmlghaaDoorA32
namespace Go.Proofs.YtfmjmngkgmlghaaDoor
open Go Go.RowKit Go.Proofs
set_option linter.unusedSimpArgs false
set_option linter.unusedVariables false
theorem qaz23 : (Tryd.prog.info? 23).bind (·.zero) = some (.agg #[.int .i64 0, .int .i64 0]) := by kernel_rfl
theorem qbp23 : ∀ w, ((fsOf Tryd.prog 23).mapM fun f => Prod.mk f.offset <$> sizeOf f.type : Sem (Array (Nat × Nat))).run Tryd.prog w = .ok (#[(0, 1), (1, 1)]) w := fun _ => by kernel_rfl
theorem qbu23 : Tryd.prog.underlying 23 = some (.struct (fsOf Tryd.prog 23)) := by kernel_rfl
theorem qbz23 : (Tryd.prog.info? 23).bind (·.zero) = some (.agg #[.int .i64 0, .int .i64 0]) := by kernel_rfl
theorem qfl23_0 : FldIs Tryd.prog 23 0 0 false 1 := by unfold FldIs; kernel_rfl
theorem qfl23_1 : FldIs Tryd.prog 23 1 1 false 1 := by unfold FldIs; kernel_rfl
theorem qfl93_1 : FldIs Tryd.prog 93 1 1 false 1 := by unfold FldIs; kernel_rfl
theorem qgq23 : Tryd.prog.eqGuardType Tryd.prog.depth 23 = false := by kernel_rfl
theorem qhcf10 : ∀ args w, (callFunc 10 args).run Tryd.prog w = .ok (.enter 10 args) w := fun _ _ => by kernel_rfl
theorem qhcf27 : ∀ args w, (callFunc 27 args).run Tryd.prog w = .ok (.enter 27 args) w := fun _ _ => by kernel_rfl
theorem qhcf28 : ∀ args w, (callFunc 28 args).run Tryd.prog w = .ok (.enter 28 args) w := fun _ _ => by kernel_rfl
theorem qhcf29 : ∀ args w, (callFunc 29 args).run Tryd.prog w = .ok (.enter 29 args) w := fun _ _ => by kernel_rfl
theorem qhcf43 : ∀ args w, (callFunc 43 args).run Tryd.prog w = .ok (.enter 43 args) w := fun _ _ => by kernel_rfl
theorem qhcf73 : ∀ args w, (callFunc 73 args).run Tryd.prog w = .ok (.enter 73 args) w := fun _ _ => by kernel_rfl
theorem qsz23 : (Tryd.prog.info? 23).map (·.size) = some 2 := by kernel_rfl
theorem qun9 : Tryd.prog.underlying 9 = some .string := by kernel_rfl
end Go.Proofs.YtfmjmngkgmlghaaDoor
