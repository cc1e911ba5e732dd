/- Facts on types, fields and functions of the program that several texts need. -/
import Derived.Test.YtfmjmngkgmlghaaDoorProg
import Derived.Test.YtfmjmngkgmlghaaDoorA1
import Derived.Test.YtfmjmngkgmlghaaDoorA2
import Derived.Test.YtfmjmngkgmlghaaDoorA4
import Derived.Test.YtfmjmngkgmlghaaDoorA5
import Derived.Test.YtfmjmngkgmlghaaDoorA6
import Derived.Test.YtfmjmngkgmlghaaDoorA3
import Derived.Test.YtfmjmngkgmlghaaDoorA7
import Derived.Test.YtfmjmngkgmlghaaDoorA8
import Derived.Test.YtfmjmngkgmlghaaDoorA9
import Derived.Test.YtfmjmngkgmlghaaDoorA10
import Derived.Test.YtfmjmngkgmlghaaDoorA11
import Derived.Test.YtfmjmngkgmlghaaDoorA12
import Derived.Test.YtfmjmngkgmlghaaDoorA13
import Derived.Test.YtfmjmngkgmlghaaDoorA14
import Derived.Test.YtfmjmngkgmlghaaDoorA15
import Derived.Test.YtfmjmngkgmlghaaDoorA16
import Derived.Test.YtfmjmngkgmlghaaDoorA17
import Derived.Test.YtfmjmngkgmlghaaDoorA20
import Derived.Test.YtfmjmngkgmlghaaDoorA22
import Derived.Test.YtfmjmngkgmlghaaDoorA23
import Derived.Test.YtfmjmngkgmlghaaDoorA24
import Derived.Test.YtfmjmngkgmlghaaDoorA32
namespace Go.Proofs.YtfmjmngkgmlghaaDoor
open Go Go.RowKit Go.Proofs
set_option linter.unusedSimpArgs false
set_option linter.unusedVariables false
theorem qaz117 : (Tryd.prog.info? 117).bind (·.zero) = some (.agg #[.string ByteArray.empty, .slice none 0 0, .int .i64 0, .int .i64 0, .int .i64 0]) := by kernel_rfl
theorem qaz123 : (Tryd.prog.info? 123).bind (·.zero) = some (.agg #[.int .i64 0, .int .i64 0, .int .i64 0, .bool false]) := by kernel_rfl
theorem qaz37 : (Tryd.prog.info? 37).bind (·.zero) = some (.agg #[.int .i64 0, .int .i64 0]) := by kernel_rfl
theorem qaz84 : (Tryd.prog.info? 84).bind (·.zero) = some (.agg #[.int .i64 0, .int .i64 0]) := by kernel_rfl
theorem qbp37 : ∀ w, ((fsOf Tryd.prog 37).mapM fun f => Prod.mk f.offset <$> sizeOf f.type : Sem (Array (Nat × Nat))).run Tryd.prog w = .ok (#[(0, 1), (1, 1)]) w := fun _ => by kernel_rfl
theorem qbp84 : ∀ w, ((fsOf Tryd.prog 84).mapM fun f => Prod.mk f.offset <$> sizeOf f.type : Sem (Array (Nat × Nat))).run Tryd.prog w = .ok (#[(0, 1), (1, 1)]) w := fun _ => by kernel_rfl
theorem qbu37 : Tryd.prog.underlying 37 = some (.struct (fsOf Tryd.prog 37)) := by kernel_rfl
theorem qbu84 : Tryd.prog.underlying 84 = some (.struct (fsOf Tryd.prog 84)) := by kernel_rfl
theorem qbz37 : (Tryd.prog.info? 37).bind (·.zero) = some (.agg #[.int .i64 0, .int .i64 0]) := by kernel_rfl
theorem qbz84 : (Tryd.prog.info? 84).bind (·.zero) = some (.agg #[.int .i64 0, .int .i64 0]) := by kernel_rfl
theorem qfl115_0 : FldIs Tryd.prog 115 0 0 true 2 := by unfold FldIs; kernel_rfl
theorem qfl117_0 : FldIs Tryd.prog 117 0 0 true 2 := by unfold FldIs; kernel_rfl
theorem qfl123_0 : FldIs Tryd.prog 123 0 0 false 1 := by unfold FldIs; kernel_rfl
theorem qfl123_1 : FldIs Tryd.prog 123 1 1 false 1 := by unfold FldIs; kernel_rfl
theorem qfl123_2 : FldIs Tryd.prog 123 2 2 false 1 := by unfold FldIs; kernel_rfl
theorem qfl35_0 : FldIs Tryd.prog 35 0 0 false 1 := by unfold FldIs; kernel_rfl
theorem qfl35_1 : FldIs Tryd.prog 35 1 1 false 1 := by unfold FldIs; kernel_rfl
theorem qfl37_0 : FldIs Tryd.prog 37 0 0 false 1 := by unfold FldIs; kernel_rfl
theorem qfl37_1 : FldIs Tryd.prog 37 1 1 false 1 := by unfold FldIs; kernel_rfl
theorem qhcf24 : ∀ args w, (callFunc 24 args).run Tryd.prog w = .ok (.enter 24 args) w := fun _ _ => by kernel_rfl
theorem qhcf42 : ∀ args w, (callFunc 42 args).run Tryd.prog w = .ok (.enter 42 args) w := fun _ _ => by kernel_rfl
theorem qhcf57 : ∀ args w, (callFunc 57 args).run Tryd.prog w = .ok (.enter 57 args) w := fun _ _ => by kernel_rfl
theorem qhcf58 : ∀ args w, (callFunc 58 args).run Tryd.prog w = .ok (.enter 58 args) w := fun _ _ => by kernel_rfl
theorem qhcf59 : ∀ args w, (callFunc 59 args).run Tryd.prog w = .ok (.enter 59 args) w := fun _ _ => by kernel_rfl
theorem qhcf60 : ∀ args w, (callFunc 60 args).run Tryd.prog w = .ok (.enter 60 args) w := fun _ _ => by kernel_rfl
theorem qhcf63 : ∀ args w, (callFunc 63 args).run Tryd.prog w = .ok (.enter 63 args) w := fun _ _ => by kernel_rfl
theorem qhcf65 : ∀ args w, (callFunc 65 args).run Tryd.prog w = .ok (.enter 65 args) w := fun _ _ => by kernel_rfl
theorem qhcf66 : ∀ args w, (callFunc 66 args).run Tryd.prog w = .ok (.enter 66 args) w := fun _ _ => by kernel_rfl
theorem qhcf67 : ∀ args w, (callFunc 67 args).run Tryd.prog w = .ok (.enter 67 args) w := fun _ _ => by kernel_rfl
theorem qhcf68 : ∀ args w, (callFunc 68 args).run Tryd.prog w = .ok (.enter 68 args) w := fun _ _ => by kernel_rfl
theorem qhcf69 : ∀ args w, (callFunc 69 args).run Tryd.prog w = .ok (.enter 69 args) w := fun _ _ => by kernel_rfl
theorem qhcf70 : ∀ args w, (callFunc 70 args).run Tryd.prog w = .ok (.enter 70 args) w := fun _ _ => by kernel_rfl
theorem qhcf88 : ∀ args w, (callFunc 88 args).run Tryd.prog w = .ok (.enter 88 args) w := fun _ _ => by kernel_rfl
theorem qsz117 : (Tryd.prog.info? 117).map (·.size) = some 5 := by kernel_rfl
theorem qsz123 : (Tryd.prog.info? 123).map (·.size) = some 4 := by kernel_rfl
theorem qsz37 : (Tryd.prog.info? 37).map (·.size) = some 2 := by kernel_rfl
theorem qsz84 : (Tryd.prog.info? 84).map (·.size) = some 2 := by kernel_rfl
theorem qu85 : Tryd.prog.underlying 5 = some (.int .u8) := by kernel_rfl
theorem qun9 : Tryd.prog.underlying 9 = some .string := by kernel_rfl
theorem qus113 : Tryd.prog.underlying 113 = some (.slice 5) := by kernel_rfl
end Go.Proofs.YtfmjmngkgmlghaaDoor
