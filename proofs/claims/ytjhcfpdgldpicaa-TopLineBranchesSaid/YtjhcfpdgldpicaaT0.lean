/- Lemmas for the statement. -/
import Derived.Test.YtjhcfpdgldpicaaProg
import Derived.Test.YtjhcfpdgldpicaaA1
import Derived.Test.YtjhcfpdgldpicaaA2
import Derived.Test.YtjhcfpdgldpicaaA4
import Derived.Test.YtjhcfpdgldpicaaA5
import Derived.Test.YtjhcfpdgldpicaaA6
import Derived.Test.YtjhcfpdgldpicaaA3
import Derived.Test.YtjhcfpdgldpicaaA7
import Derived.Test.YtjhcfpdgldpicaaA8
import Derived.Test.YtjhcfpdgldpicaaA9
import Derived.Test.YtjhcfpdgldpicaaA10
import Derived.Test.YtjhcfpdgldpicaaA11
import Derived.Test.YtjhcfpdgldpicaaA12
import Derived.Test.YtjhcfpdgldpicaaA13
import Derived.Test.YtjhcfpdgldpicaaA14
import Derived.Test.YtjhcfpdgldpicaaA15
import Derived.Test.YtjhcfpdgldpicaaA16
import Derived.Test.YtjhcfpdgldpicaaM1
import Derived.Test.YtjhcfpdgldpicaaA25
import Derived.Test.YtjhcfpdgldpicaaM2
import Derived.Test.YtjhcfpdgldpicaaA46
import Derived.Test.YtjhcfpdgldpicaaA47
import Derived.Test.YtjhcfpdgldpicaaA40
import Derived.Test.YtjhcfpdgldpicaaA41
import Derived.Test.YtjhcfpdgldpicaaA42
import Derived.Test.YtjhcfpdgldpicaaA48
import Derived.Test.YtjhcfpdgldpicaaA49
import Derived.Test.YtjhcfpdgldpicaaA50
import Derived.Test.YtjhcfpdgldpicaaA51
import Derived.Test.YtjhcfpdgldpicaaA31
import Derived.Test.YtjhcfpdgldpicaaA21
import Derived.Test.YtjhcfpdgldpicaaM3
import Derived.Test.YtjhcfpdgldpicaaA27
import Derived.Test.YtjhcfpdgldpicaaA28
namespace Go.Proofs.Ytjhcfpdgldpicaa
open Go Go.RowKit Go.Proofs
set_option linter.unusedSimpArgs false
set_option linter.unusedVariables false
theorem qaz113 : (Try.prog.info? 113).bind (·.zero) = some (.agg #[.int .i64 0, .int .i64 0, .int .i64 0]) := by kernel_rfl
theorem qaz26 : (Try.prog.info? 26).bind (·.zero) = some (.agg #[.string ByteArray.empty, .slice none 0 0, .slice none 0 0, .slice none 0 0]) := by kernel_rfl
theorem qaz36 : (Try.prog.info? 36).bind (·.zero) = some (.agg #[.int .i64 0, .int .i64 0]) := by kernel_rfl
theorem qaz47 : (Try.prog.info? 47).bind (·.zero) = some (.agg #[.string ByteArray.empty, .int .i64 0, .slice none 0 0]) := by kernel_rfl
theorem qaz55 : (Try.prog.info? 55).bind (·.zero) = some (.agg #[.int .i64 0, .int .i64 0]) := by kernel_rfl
theorem qaz66 : (Try.prog.info? 66).bind (·.zero) = some (.agg #[.int .i64 0, .int .i64 0, .int .i64 0, .int .i64 0]) := by kernel_rfl
theorem qaz69 : (Try.prog.info? 69).bind (·.zero) = some (.agg #[.int .i64 0, .int .i64 0]) := by kernel_rfl
theorem qaz75 : (Try.prog.info? 75).bind (·.zero) = some (.agg #[.int .i64 0, .int .i64 0]) := by kernel_rfl
theorem qbp113 : ∀ w, ((fsOf Try.prog 113).mapM fun f => Prod.mk f.offset <$> sizeOf f.type : Sem (Array (Nat × Nat))).run Try.prog w = .ok (#[(0, 2), (2, 1)]) w := fun _ => by kernel_rfl
theorem qbp26 : ∀ w, ((fsOf Try.prog 26).mapM fun f => Prod.mk f.offset <$> sizeOf f.type : Sem (Array (Nat × Nat))).run Try.prog w = .ok (#[(0, 1), (1, 1), (2, 1), (3, 1)]) w := fun _ => by kernel_rfl
theorem qbp55 : ∀ w, ((fsOf Try.prog 55).mapM fun f => Prod.mk f.offset <$> sizeOf f.type : Sem (Array (Nat × Nat))).run Try.prog w = .ok (#[(0, 1), (1, 1)]) w := fun _ => by kernel_rfl
theorem qbp75 : ∀ w, ((fsOf Try.prog 75).mapM fun f => Prod.mk f.offset <$> sizeOf f.type : Sem (Array (Nat × Nat))).run Try.prog w = .ok (#[(0, 1), (1, 1)]) w := fun _ => by kernel_rfl
theorem qbu113 : Try.prog.underlying 113 = some (.struct (fsOf Try.prog 113)) := by kernel_rfl
theorem qbu26 : Try.prog.underlying 26 = some (.struct (fsOf Try.prog 26)) := by kernel_rfl
theorem qbu55 : Try.prog.underlying 55 = some (.struct (fsOf Try.prog 55)) := by kernel_rfl
theorem qbu75 : Try.prog.underlying 75 = some (.struct (fsOf Try.prog 75)) := by kernel_rfl
theorem qbz113 : (Try.prog.info? 113).bind (·.zero) = some (.agg #[.int .i64 0, .int .i64 0, .int .i64 0]) := by kernel_rfl
theorem qbz26 : (Try.prog.info? 26).bind (·.zero) = some (.agg #[.string ByteArray.empty, .slice none 0 0, .slice none 0 0, .slice none 0 0]) := by kernel_rfl
theorem qbz55 : (Try.prog.info? 55).bind (·.zero) = some (.agg #[.int .i64 0, .int .i64 0]) := by kernel_rfl
theorem qbz75 : (Try.prog.info? 75).bind (·.zero) = some (.agg #[.int .i64 0, .int .i64 0]) := by kernel_rfl
theorem qfl26_0 : FldIs Try.prog 26 0 0 false 1 := by unfold FldIs; kernel_rfl
theorem qfl26_1 : FldIs Try.prog 26 1 1 false 1 := by unfold FldIs; kernel_rfl
theorem qfl26_2 : FldIs Try.prog 26 2 2 false 1 := by unfold FldIs; kernel_rfl
theorem qfl26_3 : FldIs Try.prog 26 3 3 false 1 := by unfold FldIs; kernel_rfl
theorem qfl47_0 : FldIs Try.prog 47 0 0 false 1 := by unfold FldIs; kernel_rfl
theorem qfl47_1 : FldIs Try.prog 47 1 1 false 1 := by unfold FldIs; kernel_rfl
theorem qfl47_2 : FldIs Try.prog 47 2 2 false 1 := by unfold FldIs; kernel_rfl
theorem qfl55_0 : FldIs Try.prog 55 0 0 false 1 := by unfold FldIs; kernel_rfl
theorem qfl55_1 : FldIs Try.prog 55 1 1 false 1 := by unfold FldIs; kernel_rfl
theorem qfl59_0 : FldIs Try.prog 59 0 0 false 1 := by unfold FldIs; kernel_rfl
theorem qfl66_0 : FldIs Try.prog 66 0 0 false 1 := by unfold FldIs; kernel_rfl
theorem qfl66_1 : FldIs Try.prog 66 1 1 false 1 := by unfold FldIs; kernel_rfl
theorem qfl66_2 : FldIs Try.prog 66 2 2 true 2 := by unfold FldIs; kernel_rfl
theorem qfl69_0 : FldIs Try.prog 69 0 0 false 1 := by unfold FldIs; kernel_rfl
theorem qfl69_1 : FldIs Try.prog 69 1 1 false 1 := by unfold FldIs; kernel_rfl
theorem qfl83_0 : FldIs Try.prog 83 0 0 true 4 := by unfold FldIs; kernel_rfl
theorem qfl83_1 : FldIs Try.prog 83 1 4 false 1 := by unfold FldIs; kernel_rfl
theorem qgq40 : Try.prog.eqGuardType Try.prog.depth 40 = false := by kernel_rfl
theorem qhcf16 : ∀ args w, (callFunc 16 args).run Try.prog w = .ok (.enter 16 args) w := fun _ _ => by kernel_rfl
theorem qhcf20 : ∀ args w, (callFunc 20 args).run Try.prog w = .ok (.enter 20 args) w := fun _ _ => by kernel_rfl
theorem qhcf27 : ∀ args w, (callFunc 27 args).run Try.prog w = .ok (.enter 27 args) w := fun _ _ => by kernel_rfl
theorem qhcf28 : ∀ args w, (callFunc 28 args).run Try.prog w = .ok (.enter 28 args) w := fun _ _ => by kernel_rfl
theorem qhcf37 : ∀ args w, (callFunc 37 args).run Try.prog w = .ok (.enter 37 args) w := fun _ _ => by kernel_rfl
theorem qhcf38 : ∀ args w, (callFunc 38 args).run Try.prog w = .ok (.enter 38 args) w := fun _ _ => by kernel_rfl
theorem qhcf39 : ∀ args w, (callFunc 39 args).run Try.prog w = .ok (.enter 39 args) w := fun _ _ => by kernel_rfl
theorem qhcf44 : ∀ args w, (callFunc 44 args).run Try.prog w = .ok (.enter 44 args) w := fun _ _ => by kernel_rfl
theorem qhcf50 : ∀ args w, (callFunc 50 args).run Try.prog w = .ok (.enter 50 args) w := fun _ _ => by kernel_rfl
theorem qhcf51 : ∀ args w, (callFunc 51 args).run Try.prog w = .ok (.enter 51 args) w := fun _ _ => by kernel_rfl
theorem qhcf52 : ∀ args w, (callFunc 52 args).run Try.prog w = .ok (.enter 52 args) w := fun _ _ => by kernel_rfl
theorem qhcf53 : ∀ args w, (callFunc 53 args).run Try.prog w = .ok (.enter 53 args) w := fun _ _ => by kernel_rfl
theorem qhcf54 : ∀ args w, (callFunc 54 args).run Try.prog w = .ok (.enter 54 args) w := fun _ _ => by kernel_rfl
theorem qhcf56 : ∀ args w, (callFunc 56 args).run Try.prog w = .ok (.enter 56 args) w := fun _ _ => by kernel_rfl
theorem qhcf57 : ∀ args w, (callFunc 57 args).run Try.prog w = .ok (.enter 57 args) w := fun _ _ => by kernel_rfl
theorem qhcf59 : ∀ args w, (callFunc 59 args).run Try.prog w = .ok (.enter 59 args) w := fun _ _ => by kernel_rfl
theorem qhcf60 : ∀ args w, (callFunc 60 args).run Try.prog w = .ok (.enter 60 args) w := fun _ _ => by kernel_rfl
theorem qhcf61 : ∀ args w, (callFunc 61 args).run Try.prog w = .ok (.enter 61 args) w := fun _ _ => by kernel_rfl
theorem qhcf62 : ∀ args w, (callFunc 62 args).run Try.prog w = .ok (.enter 62 args) w := fun _ _ => by kernel_rfl
theorem qhcf64 : ∀ args w, (callFunc 64 args).run Try.prog w = .ok (.enter 64 args) w := fun _ _ => by kernel_rfl
theorem qhcf69 : ∀ args w, (callFunc 69 args).run Try.prog w = .ok (.enter 69 args) w := fun _ _ => by kernel_rfl
theorem qhcf76 : ∀ args w, (callFunc 76 args).run Try.prog w = .ok (.enter 76 args) w := fun _ _ => by kernel_rfl
theorem qhcf78 : ∀ args w, (callFunc 78 args).run Try.prog w = .ok (.enter 78 args) w := fun _ _ => by kernel_rfl
theorem qsz113 : (Try.prog.info? 113).map (·.size) = some 3 := by kernel_rfl
theorem qsz24 : (Try.prog.info? 24).map (·.size) = some 1 := by kernel_rfl
theorem qsz26 : (Try.prog.info? 26).map (·.size) = some 4 := by kernel_rfl
theorem qsz3 : (Try.prog.info? 3).map (·.size) = some 1 := by kernel_rfl
theorem qsz36 : (Try.prog.info? 36).map (·.size) = some 2 := by kernel_rfl
theorem qsz40 : (Try.prog.info? 40).map (·.size) = some 1 := by kernel_rfl
theorem qsz47 : (Try.prog.info? 47).map (·.size) = some 3 := by kernel_rfl
theorem qsz55 : (Try.prog.info? 55).map (·.size) = some 2 := by kernel_rfl
theorem qsz66 : (Try.prog.info? 66).map (·.size) = some 4 := by kernel_rfl
theorem qsz69 : (Try.prog.info? 69).map (·.size) = some 2 := by kernel_rfl
theorem qsz75 : (Try.prog.info? 75).map (·.size) = some 2 := by kernel_rfl
theorem qun9 : Try.prog.underlying 9 = some .string := by kernel_rfl
end Go.Proofs.Ytjhcfpdgldpicaa
