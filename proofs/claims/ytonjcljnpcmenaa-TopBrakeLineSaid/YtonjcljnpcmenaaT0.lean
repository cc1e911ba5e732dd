/- Facts on types, fields and functions of the program that several texts need. -/
import Derived.Test.YtonjcljnpcmenaaProg
import Derived.Test.YtonjcljnpcmenaaA1
import Derived.Test.YtonjcljnpcmenaaA2
import Derived.Test.YtonjcljnpcmenaaA4
import Derived.Test.YtonjcljnpcmenaaA5
import Derived.Test.YtonjcljnpcmenaaA6
import Derived.Test.YtonjcljnpcmenaaA3
import Derived.Test.YtonjcljnpcmenaaA7
import Derived.Test.YtonjcljnpcmenaaA8
import Derived.Test.YtonjcljnpcmenaaA9
import Derived.Test.YtonjcljnpcmenaaA10
import Derived.Test.YtonjcljnpcmenaaA11
import Derived.Test.YtonjcljnpcmenaaA12
import Derived.Test.YtonjcljnpcmenaaA13
import Derived.Test.YtonjcljnpcmenaaA14
import Derived.Test.YtonjcljnpcmenaaA15
import Derived.Test.YtonjcljnpcmenaaA16
import Derived.Test.YtonjcljnpcmenaaA18
import Derived.Test.YtonjcljnpcmenaaA20
import Derived.Test.YtonjcljnpcmenaaA21
import Derived.Test.YtonjcljnpcmenaaA22
import Derived.Test.YtonjcljnpcmenaaA23
import Derived.Test.YtonjcljnpcmenaaA24
import Derived.Test.YtonjcljnpcmenaaA25
import Derived.Test.YtonjcljnpcmenaaA26
import Derived.Test.YtonjcljnpcmenaaA27
import Derived.Test.YtonjcljnpcmenaaA29
import Derived.Test.YtonjcljnpcmenaaA30
namespace Go.Proofs.Ytonjcljnpcmenaa
open Go Go.RowKit Go.Proofs
set_option linter.unusedSimpArgs false
set_option linter.unusedVariables false
theorem qaz100 : (Try.prog.info? 100).bind (·.zero) = some (.agg #[.string ByteArray.empty, .slice none 0 0]) := by kernel_rfl
theorem qaz104 : (Try.prog.info? 104).bind (·.zero) = some (.agg #[.int .i64 0, .int .i64 0, .int .i64 0, .bool false]) := by kernel_rfl
theorem qaz121 : (Try.prog.info? 121).bind (·.zero) = some (.agg #[.int .i64 0, .int .i64 0]) := by kernel_rfl
theorem qaz168 : (Try.prog.info? 168).bind (·.zero) = some (.agg #[.string ByteArray.empty, .slice none 0 0]) := by kernel_rfl
theorem qaz173 : (Try.prog.info? 173).bind (·.zero) = some (.agg #[.string ByteArray.empty, .slice none 0 0, .int .i64 0, .int .i64 0, .int .i64 0]) := by kernel_rfl
theorem qaz206 : (Try.prog.info? 206).bind (·.zero) = some (.agg #[.int .i64 0, .int .i64 0, .int .i64 0]) := by kernel_rfl
theorem qaz39 : (Try.prog.info? 39).bind (·.zero) = some (.agg #[.int .i64 0, .int .i64 0]) := by kernel_rfl
theorem qaz70 : (Try.prog.info? 70).bind (·.zero) = some (.agg #[.int .i64 0, .int .i64 0, .int .i64 0, .int .i64 0]) := by kernel_rfl
theorem qaz81 : (Try.prog.info? 81).bind (·.zero) = some (.agg #[.int .i64 0, .int .i64 0]) := by kernel_rfl
theorem qaz87 : (Try.prog.info? 87).bind (·.zero) = some (.agg #[.int .i64 0, .int .i64 0]) := by kernel_rfl
theorem qaz91 : (Try.prog.info? 91).bind (·.zero) = some (.agg #[.string ByteArray.empty, .int .i64 0, .slice none 0 0]) := by kernel_rfl
theorem qbp100 : ∀ w, ((fsOf Try.prog 100).mapM fun f => Prod.mk f.offset <$> sizeOf f.type : Sem (Array (Nat × Nat))).run Try.prog w = .ok (#[(0, 1), (1, 1)]) w := fun _ => by kernel_rfl
theorem qbp104 : ∀ w, ((fsOf Try.prog 104).mapM fun f => Prod.mk f.offset <$> sizeOf f.type : Sem (Array (Nat × Nat))).run Try.prog w = .ok (#[(0, 1), (1, 1), (2, 1), (3, 1)]) w := fun _ => by kernel_rfl
theorem qbp113 : ∀ w, ((fsOf Try.prog 113).mapM fun f => Prod.mk f.offset <$> sizeOf f.type : Sem (Array (Nat × Nat))).run Try.prog w = .ok (#[(0, 1), (1, 1)]) w := fun _ => by kernel_rfl
theorem qbp121 : ∀ w, ((fsOf Try.prog 121).mapM fun f => Prod.mk f.offset <$> sizeOf f.type : Sem (Array (Nat × Nat))).run Try.prog w = .ok (#[(0, 1), (1, 1)]) w := fun _ => by kernel_rfl
theorem qbp206 : ∀ w, ((fsOf Try.prog 206).mapM fun f => Prod.mk f.offset <$> sizeOf f.type : Sem (Array (Nat × Nat))).run Try.prog w = .ok (#[(0, 2), (2, 1)]) w := fun _ => by kernel_rfl
theorem qbu100 : Try.prog.underlying 100 = some (.struct (fsOf Try.prog 100)) := by kernel_rfl
theorem qbu104 : Try.prog.underlying 104 = some (.struct (fsOf Try.prog 104)) := by kernel_rfl
theorem qbu113 : Try.prog.underlying 113 = some (.struct (fsOf Try.prog 113)) := by kernel_rfl
theorem qbu121 : Try.prog.underlying 121 = some (.struct (fsOf Try.prog 121)) := by kernel_rfl
theorem qbu206 : Try.prog.underlying 206 = some (.struct (fsOf Try.prog 206)) := by kernel_rfl
theorem qbz100 : (Try.prog.info? 100).bind (·.zero) = some (.agg #[.string ByteArray.empty, .slice none 0 0]) := by kernel_rfl
theorem qbz104 : (Try.prog.info? 104).bind (·.zero) = some (.agg #[.int .i64 0, .int .i64 0, .int .i64 0, .bool false]) := by kernel_rfl
theorem qbz113 : (Try.prog.info? 113).bind (·.zero) = some (.agg #[.int .i64 0, .int .i64 0]) := by kernel_rfl
theorem qbz121 : (Try.prog.info? 121).bind (·.zero) = some (.agg #[.int .i64 0, .int .i64 0]) := by kernel_rfl
theorem qbz206 : (Try.prog.info? 206).bind (·.zero) = some (.agg #[.int .i64 0, .int .i64 0, .int .i64 0]) := by kernel_rfl
theorem qfl100_0 : FldIs Try.prog 100 0 0 false 1 := by unfold FldIs; kernel_rfl
theorem qfl100_1 : FldIs Try.prog 100 1 1 false 1 := by unfold FldIs; kernel_rfl
theorem qfl104_0 : FldIs Try.prog 104 0 0 false 1 := by unfold FldIs; kernel_rfl
theorem qfl104_1 : FldIs Try.prog 104 1 1 false 1 := by unfold FldIs; kernel_rfl
theorem qfl104_2 : FldIs Try.prog 104 2 2 false 1 := by unfold FldIs; kernel_rfl
theorem qfl104_3 : FldIs Try.prog 104 3 3 false 1 := by unfold FldIs; kernel_rfl
theorem qfl113_0 : FldIs Try.prog 113 0 0 false 1 := by unfold FldIs; kernel_rfl
theorem qfl113_1 : FldIs Try.prog 113 1 1 false 1 := by unfold FldIs; kernel_rfl
theorem qfl141_0 : FldIs Try.prog 141 0 0 true 4 := by unfold FldIs; kernel_rfl
theorem qfl141_1 : FldIs Try.prog 141 1 4 false 1 := by unfold FldIs; kernel_rfl
theorem qfl168_0 : FldIs Try.prog 168 0 0 true 2 := by unfold FldIs; kernel_rfl
theorem qfl173_0 : FldIs Try.prog 173 0 0 true 2 := by unfold FldIs; kernel_rfl
theorem qfl26_0 : FldIs Try.prog 26 0 0 false 1 := by unfold FldIs; kernel_rfl
theorem qfl26_1 : FldIs Try.prog 26 1 1 false 1 := by unfold FldIs; kernel_rfl
theorem qfl26_2 : FldIs Try.prog 26 2 2 false 1 := by unfold FldIs; kernel_rfl
theorem qfl26_3 : FldIs Try.prog 26 3 3 false 1 := by unfold FldIs; kernel_rfl
theorem qfl39_0 : FldIs Try.prog 39 0 0 false 1 := by unfold FldIs; kernel_rfl
theorem qfl39_1 : FldIs Try.prog 39 1 1 false 1 := by unfold FldIs; kernel_rfl
theorem qfl70_0 : FldIs Try.prog 70 0 0 false 1 := by unfold FldIs; kernel_rfl
theorem qfl70_1 : FldIs Try.prog 70 1 1 false 1 := by unfold FldIs; kernel_rfl
theorem qfl70_2 : FldIs Try.prog 70 2 2 true 2 := by unfold FldIs; kernel_rfl
theorem qfl87_0 : FldIs Try.prog 87 0 0 false 1 := by unfold FldIs; kernel_rfl
theorem qfl87_1 : FldIs Try.prog 87 1 1 false 1 := by unfold FldIs; kernel_rfl
theorem qfl91_0 : FldIs Try.prog 91 0 0 false 1 := by unfold FldIs; kernel_rfl
theorem qfl91_1 : FldIs Try.prog 91 1 1 false 1 := by unfold FldIs; kernel_rfl
theorem qfl91_2 : FldIs Try.prog 91 2 2 false 1 := by unfold FldIs; kernel_rfl
theorem qfl93_0 : FldIs Try.prog 93 0 0 false 1 := by unfold FldIs; kernel_rfl
theorem qhcf104 : ∀ args w, (callFunc 104 args).run Try.prog w = .ok (.enter 104 args) w := fun _ _ => by kernel_rfl
theorem qhcf112 : ∀ args w, (callFunc 112 args).run Try.prog w = .ok (.enter 112 args) w := fun _ _ => by kernel_rfl
theorem qhcf113 : ∀ args w, (callFunc 113 args).run Try.prog w = .ok (.enter 113 args) w := fun _ _ => by kernel_rfl
theorem qhcf114 : ∀ args w, (callFunc 114 args).run Try.prog w = .ok (.enter 114 args) w := fun _ _ => by kernel_rfl
theorem qhcf115 : ∀ args w, (callFunc 115 args).run Try.prog w = .ok (.enter 115 args) w := fun _ _ => by kernel_rfl
theorem qhcf116 : ∀ args w, (callFunc 116 args).run Try.prog w = .ok (.enter 116 args) w := fun _ _ => by kernel_rfl
theorem qhcf117 : ∀ args w, (callFunc 117 args).run Try.prog w = .ok (.enter 117 args) w := fun _ _ => by kernel_rfl
theorem qhcf118 : ∀ args w, (callFunc 118 args).run Try.prog w = .ok (.enter 118 args) w := fun _ _ => by kernel_rfl
theorem qhcf119 : ∀ args w, (callFunc 119 args).run Try.prog w = .ok (.enter 119 args) w := fun _ _ => by kernel_rfl
theorem qhcf120 : ∀ args w, (callFunc 120 args).run Try.prog w = .ok (.enter 120 args) w := fun _ _ => by kernel_rfl
theorem qhcf122 : ∀ args w, (callFunc 122 args).run Try.prog w = .ok (.enter 122 args) w := fun _ _ => by kernel_rfl
theorem qhcf125 : ∀ args w, (callFunc 125 args).run Try.prog w = .ok (.enter 125 args) w := fun _ _ => by kernel_rfl
theorem qhcf126 : ∀ args w, (callFunc 126 args).run Try.prog w = .ok (.enter 126 args) w := fun _ _ => by kernel_rfl
theorem qhcf127 : ∀ args w, (callFunc 127 args).run Try.prog w = .ok (.enter 127 args) w := fun _ _ => by kernel_rfl
theorem qhcf128 : ∀ args w, (callFunc 128 args).run Try.prog w = .ok (.enter 128 args) w := fun _ _ => by kernel_rfl
theorem qhcf137 : ∀ args w, (callFunc 137 args).run Try.prog w = .ok (.enter 137 args) w := fun _ _ => by kernel_rfl
theorem qhcf138 : ∀ args w, (callFunc 138 args).run Try.prog w = .ok (.enter 138 args) w := fun _ _ => by kernel_rfl
theorem qhcf139 : ∀ args w, (callFunc 139 args).run Try.prog w = .ok (.enter 139 args) w := fun _ _ => by kernel_rfl
theorem qhcf149 : ∀ args w, (callFunc 149 args).run Try.prog w = .ok (.enter 149 args) w := fun _ _ => by kernel_rfl
theorem qhcf150 : ∀ args w, (callFunc 150 args).run Try.prog w = .ok (.enter 150 args) w := fun _ _ => by kernel_rfl
theorem qhcf153 : ∀ args w, (callFunc 153 args).run Try.prog w = .ok (.enter 153 args) w := fun _ _ => by kernel_rfl
theorem qhcf174 : ∀ args w, (callFunc 174 args).run Try.prog w = .ok (.enter 174 args) w := fun _ _ => by kernel_rfl
theorem qhcf176 : ∀ args w, (callFunc 176 args).run Try.prog w = .ok (.enter 176 args) w := fun _ _ => by kernel_rfl
theorem qhcf26 : ∀ args w, (callFunc 26 args).run Try.prog w = .ok (.enter 26 args) w := fun _ _ => by kernel_rfl
theorem qhcf30 : ∀ args w, (callFunc 30 args).run Try.prog w = .ok (.enter 30 args) w := fun _ _ => by kernel_rfl
theorem qhcf65 : ∀ args w, (callFunc 65 args).run Try.prog w = .ok (.enter 65 args) w := fun _ _ => by kernel_rfl
theorem qhcf76 : ∀ args w, (callFunc 76 args).run Try.prog w = .ok (.enter 76 args) w := fun _ _ => by kernel_rfl
theorem qhcf77 : ∀ args w, (callFunc 77 args).run Try.prog w = .ok (.enter 77 args) w := fun _ _ => by kernel_rfl
theorem qhcf94 : ∀ args w, (callFunc 94 args).run Try.prog w = .ok (.enter 94 args) w := fun _ _ => by kernel_rfl
theorem qhcf97 : ∀ args w, (callFunc 97 args).run Try.prog w = .ok (.enter 97 args) w := fun _ _ => by kernel_rfl
theorem qsz100 : (Try.prog.info? 100).map (·.size) = some 2 := by kernel_rfl
theorem qsz104 : (Try.prog.info? 104).map (·.size) = some 4 := by kernel_rfl
theorem qsz121 : (Try.prog.info? 121).map (·.size) = some 2 := by kernel_rfl
theorem qsz168 : (Try.prog.info? 168).map (·.size) = some 2 := by kernel_rfl
theorem qsz173 : (Try.prog.info? 173).map (·.size) = some 5 := by kernel_rfl
theorem qsz206 : (Try.prog.info? 206).map (·.size) = some 3 := by kernel_rfl
theorem qsz3 : (Try.prog.info? 3).map (·.size) = some 1 := by kernel_rfl
theorem qsz39 : (Try.prog.info? 39).map (·.size) = some 2 := by kernel_rfl
theorem qsz49 : (Try.prog.info? 49).map (·.size) = some 1 := by kernel_rfl
theorem qsz70 : (Try.prog.info? 70).map (·.size) = some 4 := by kernel_rfl
theorem qsz81 : (Try.prog.info? 81).map (·.size) = some 2 := by kernel_rfl
theorem qsz87 : (Try.prog.info? 87).map (·.size) = some 2 := by kernel_rfl
theorem qsz91 : (Try.prog.info? 91).map (·.size) = some 3 := by kernel_rfl
theorem qu85 : Try.prog.underlying 5 = some (.int .u8) := by kernel_rfl
theorem qun9 : Try.prog.underlying 9 = some .string := by kernel_rfl
theorem qus216 : Try.prog.underlying 216 = some (.slice 5) := by kernel_rfl
end Go.Proofs.Ytonjcljnpcmenaa
