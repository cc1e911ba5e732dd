/- Lemmas for the statement. -/
import Derived.Test.YtjhcfpdgldpicaaGreatDoorProg
import Derived.Test.YtjhcfpdgldpicaaGreatDoorA1
import Derived.Test.YtjhcfpdgldpicaaGreatDoorA2
import Derived.Test.YtjhcfpdgldpicaaGreatDoorA4
import Derived.Test.YtjhcfpdgldpicaaGreatDoorA5
import Derived.Test.YtjhcfpdgldpicaaGreatDoorA6
import Derived.Test.YtjhcfpdgldpicaaGreatDoorA3
import Derived.Test.YtjhcfpdgldpicaaGreatDoorA7
import Derived.Test.YtjhcfpdgldpicaaGreatDoorA8
import Derived.Test.YtjhcfpdgldpicaaGreatDoorA9
import Derived.Test.YtjhcfpdgldpicaaGreatDoorA10
import Derived.Test.YtjhcfpdgldpicaaGreatDoorA11
import Derived.Test.YtjhcfpdgldpicaaGreatDoorA12
import Derived.Test.YtjhcfpdgldpicaaGreatDoorA13
import Derived.Test.YtjhcfpdgldpicaaGreatDoorA14
import Derived.Test.YtjhcfpdgldpicaaGreatDoorA15
import Derived.Test.YtjhcfpdgldpicaaGreatDoorA16
import Derived.Test.YtjhcfpdgldpicaaGreatDoorA17
import Derived.Test.YtjhcfpdgldpicaaGreatDoorM1
import Derived.Test.YtjhcfpdgldpicaaGreatDoorA32
import Derived.Test.YtjhcfpdgldpicaaGreatDoorA40
import Derived.Test.YtjhcfpdgldpicaaGreatDoorA41
import Derived.Test.YtjhcfpdgldpicaaGreatDoorA42
import Derived.Test.YtjhcfpdgldpicaaGreatDoorA25
import Derived.Test.YtjhcfpdgldpicaaGreatDoorA43
import Derived.Test.YtjhcfpdgldpicaaGreatDoorA44
import Derived.Test.YtjhcfpdgldpicaaGreatDoorM2
namespace Go.Proofs.YtjhcfpdgldpicaaGreatDoor
open Go Go.RowKit Go.Proofs
set_option linter.unusedSimpArgs false
set_option linter.unusedVariables false
theorem qaz111 : (Tryz.prog.info? 111).bind (·.zero) = some (.agg #[.int .i64 0, .int .i64 0, .int .i64 0, .bool false]) := by kernel_rfl
theorem qaz115 : (Tryz.prog.info? 115).bind (·.zero) = some (.agg #[.string ByteArray.empty, .slice none 0 0]) := by kernel_rfl
theorem qaz178 : (Tryz.prog.info? 178).bind (·.zero) = some (.agg #[.string ByteArray.empty, .slice none 0 0, .int .i64 0, .int .i64 0, .int .i64 0]) := by kernel_rfl
theorem qaz24 : (Tryz.prog.info? 24).bind (·.zero) = some (.agg #[.string ByteArray.empty, .slice none 0 0]) := by kernel_rfl
theorem qaz28 : (Tryz.prog.info? 28).bind (·.zero) = some (.agg #[.int .i64 0, .int .i64 0]) := by kernel_rfl
theorem qaz3 : (Tryz.prog.info? 3).bind (·.zero) = some (.int .i64 0) := by kernel_rfl
theorem qaz62 : (Tryz.prog.info? 62).bind (·.zero) = some (.agg #[.int .i64 0, .int .i64 0]) := by kernel_rfl
theorem qbp111 : ∀ w, ((fsOf Tryz.prog 111).mapM fun f => Prod.mk f.offset <$> sizeOf f.type : Sem (Array (Nat × Nat))).run Tryz.prog w = .ok (#[(0, 1), (1, 1), (2, 1), (3, 1)]) w := fun _ => by kernel_rfl
theorem qbp24 : ∀ w, ((fsOf Tryz.prog 24).mapM fun f => Prod.mk f.offset <$> sizeOf f.type : Sem (Array (Nat × Nat))).run Tryz.prog w = .ok (#[(0, 1), (1, 1)]) w := fun _ => by kernel_rfl
theorem qbp28 : ∀ w, ((fsOf Tryz.prog 28).mapM fun f => Prod.mk f.offset <$> sizeOf f.type : Sem (Array (Nat × Nat))).run Tryz.prog w = .ok (#[(0, 1), (1, 1)]) w := fun _ => by kernel_rfl
theorem qbp62 : ∀ w, ((fsOf Tryz.prog 62).mapM fun f => Prod.mk f.offset <$> sizeOf f.type : Sem (Array (Nat × Nat))).run Tryz.prog w = .ok (#[(0, 1), (1, 1)]) w := fun _ => by kernel_rfl
theorem qbu111 : Tryz.prog.underlying 111 = some (.struct (fsOf Tryz.prog 111)) := by kernel_rfl
theorem qbu24 : Tryz.prog.underlying 24 = some (.struct (fsOf Tryz.prog 24)) := by kernel_rfl
theorem qbu28 : Tryz.prog.underlying 28 = some (.struct (fsOf Tryz.prog 28)) := by kernel_rfl
theorem qbu62 : Tryz.prog.underlying 62 = some (.struct (fsOf Tryz.prog 62)) := by kernel_rfl
theorem qbz111 : (Tryz.prog.info? 111).bind (·.zero) = some (.agg #[.int .i64 0, .int .i64 0, .int .i64 0, .bool false]) := by kernel_rfl
theorem qbz24 : (Tryz.prog.info? 24).bind (·.zero) = some (.agg #[.string ByteArray.empty, .slice none 0 0]) := by kernel_rfl
theorem qbz28 : (Tryz.prog.info? 28).bind (·.zero) = some (.agg #[.int .i64 0, .int .i64 0]) := by kernel_rfl
theorem qbz62 : (Tryz.prog.info? 62).bind (·.zero) = some (.agg #[.int .i64 0, .int .i64 0]) := by kernel_rfl
theorem qfl111_0 : FldIs Tryz.prog 111 0 0 false 1 := by unfold FldIs; kernel_rfl
theorem qfl111_1 : FldIs Tryz.prog 111 1 1 false 1 := by unfold FldIs; kernel_rfl
theorem qfl111_2 : FldIs Tryz.prog 111 2 2 false 1 := by unfold FldIs; kernel_rfl
theorem qfl111_3 : FldIs Tryz.prog 111 3 3 false 1 := by unfold FldIs; kernel_rfl
theorem qfl115_0 : FldIs Tryz.prog 115 0 0 true 2 := by unfold FldIs; kernel_rfl
theorem qfl178_0 : FldIs Tryz.prog 178 0 0 true 2 := by unfold FldIs; kernel_rfl
theorem qfl24_0 : FldIs Tryz.prog 24 0 0 false 1 := by unfold FldIs; kernel_rfl
theorem qfl24_1 : FldIs Tryz.prog 24 1 1 false 1 := by unfold FldIs; kernel_rfl
theorem qfl85_0 : FldIs Tryz.prog 85 0 0 false 1 := by unfold FldIs; kernel_rfl
theorem qfl85_1 : FldIs Tryz.prog 85 1 1 false 1 := by unfold FldIs; kernel_rfl
theorem qfl99_1 : FldIs Tryz.prog 99 1 1 false 1 := by unfold FldIs; kernel_rfl
theorem qfl99_3 : FldIs Tryz.prog 99 3 3 false 1 := by unfold FldIs; kernel_rfl
theorem qfl99_4 : FldIs Tryz.prog 99 4 4 true 2 := by unfold FldIs; kernel_rfl
theorem qfl99_5 : FldIs Tryz.prog 99 5 6 false 1 := by unfold FldIs; kernel_rfl
theorem qhcf101 : ∀ args w, (callFunc 101 args).run Tryz.prog w = .ok (.enter 101 args) w := fun _ _ => by kernel_rfl
theorem qhcf102 : ∀ args w, (callFunc 102 args).run Tryz.prog w = .ok (.enter 102 args) w := fun _ _ => by kernel_rfl
theorem qhcf110 : ∀ args w, (callFunc 110 args).run Tryz.prog w = .ok (.enter 110 args) w := fun _ _ => by kernel_rfl
theorem qhcf111 : ∀ args w, (callFunc 111 args).run Tryz.prog w = .ok (.enter 111 args) w := fun _ _ => by kernel_rfl
theorem qhcf147 : ∀ args w, (callFunc 147 args).run Tryz.prog w = .ok (.enter 147 args) w := fun _ _ => by kernel_rfl
theorem qhcf42 : ∀ args w, (callFunc 42 args).run Tryz.prog w = .ok (.enter 42 args) w := fun _ _ => by kernel_rfl
theorem qhcf44 : ∀ args w, (callFunc 44 args).run Tryz.prog w = .ok (.enter 44 args) w := fun _ _ => by kernel_rfl
theorem qhcf48 : ∀ args w, (callFunc 48 args).run Tryz.prog w = .ok (.enter 48 args) w := fun _ _ => by kernel_rfl
theorem qhcf49 : ∀ args w, (callFunc 49 args).run Tryz.prog w = .ok (.enter 49 args) w := fun _ _ => by kernel_rfl
theorem qhcf51 : ∀ args w, (callFunc 51 args).run Tryz.prog w = .ok (.enter 51 args) w := fun _ _ => by kernel_rfl
theorem qhcf84 : ∀ args w, (callFunc 84 args).run Tryz.prog w = .ok (.enter 84 args) w := fun _ _ => by kernel_rfl
theorem qhcf85 : ∀ args w, (callFunc 85 args).run Tryz.prog w = .ok (.enter 85 args) w := fun _ _ => by kernel_rfl
theorem qhcf86 : ∀ args w, (callFunc 86 args).run Tryz.prog w = .ok (.enter 86 args) w := fun _ _ => by kernel_rfl
theorem qhcf87 : ∀ args w, (callFunc 87 args).run Tryz.prog w = .ok (.enter 87 args) w := fun _ _ => by kernel_rfl
theorem qhcf90 : ∀ args w, (callFunc 90 args).run Tryz.prog w = .ok (.enter 90 args) w := fun _ _ => by kernel_rfl
theorem qhcf92 : ∀ args w, (callFunc 92 args).run Tryz.prog w = .ok (.enter 92 args) w := fun _ _ => by kernel_rfl
theorem qhcf93 : ∀ args w, (callFunc 93 args).run Tryz.prog w = .ok (.enter 93 args) w := fun _ _ => by kernel_rfl
theorem qhcf94 : ∀ args w, (callFunc 94 args).run Tryz.prog w = .ok (.enter 94 args) w := fun _ _ => by kernel_rfl
theorem qhcf95 : ∀ args w, (callFunc 95 args).run Tryz.prog w = .ok (.enter 95 args) w := fun _ _ => by kernel_rfl
theorem qhcf96 : ∀ args w, (callFunc 96 args).run Tryz.prog w = .ok (.enter 96 args) w := fun _ _ => by kernel_rfl
theorem qhcf97 : ∀ args w, (callFunc 97 args).run Tryz.prog w = .ok (.enter 97 args) w := fun _ _ => by kernel_rfl
theorem qhcf99 : ∀ args w, (callFunc 99 args).run Tryz.prog w = .ok (.enter 99 args) w := fun _ _ => by kernel_rfl
theorem qsz111 : (Tryz.prog.info? 111).map (·.size) = some 4 := by kernel_rfl
theorem qsz115 : (Tryz.prog.info? 115).map (·.size) = some 2 := by kernel_rfl
theorem qsz178 : (Tryz.prog.info? 178).map (·.size) = some 5 := by kernel_rfl
theorem qsz22 : (Tryz.prog.info? 22).map (·.size) = some 1 := by kernel_rfl
theorem qsz24 : (Tryz.prog.info? 24).map (·.size) = some 2 := by kernel_rfl
theorem qsz28 : (Tryz.prog.info? 28).map (·.size) = some 2 := by kernel_rfl
theorem qsz29 : (Tryz.prog.info? 29).map (·.size) = some 1 := by kernel_rfl
theorem qsz3 : (Tryz.prog.info? 3).map (·.size) = some 1 := by kernel_rfl
theorem qsz62 : (Tryz.prog.info? 62).map (·.size) = some 2 := by kernel_rfl
theorem qsz9 : (Tryz.prog.info? 9).map (·.size) = some 1 := by kernel_rfl
theorem qu85 : Tryz.prog.underlying 5 = some (.int .u8) := by kernel_rfl
theorem qun9 : Tryz.prog.underlying 9 = some .string := by kernel_rfl
theorem qus119 : Tryz.prog.underlying 119 = some (.slice 5) := by kernel_rfl
end Go.Proofs.YtjhcfpdgldpicaaGreatDoor
