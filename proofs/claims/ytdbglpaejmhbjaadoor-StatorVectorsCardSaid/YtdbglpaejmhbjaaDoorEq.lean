/- Three numbers compared. -/
import Derived.Test.YtdbglpaejmhbjaaDoorV1
namespace Go.Proofs.YtdbglpaejmhbjaaDoor
open Go Go.RowKit Go.Proofs
set_option linter.unusedSimpArgs false
set_option linter.unusedVariables false

theorem run_eq_int (a b : Int) (w : World) (d : Nat) : Sem.run Tryd.prog (Op.equalIn (d + 1) 3 (.int .i64 a) (.int .i64 b)) w = .ok (a == b) w := by
  unfold Op.equalIn
  simp [go_sem, run_underlying Tryd.underlying3]
set_option maxRecDepth 100000 in
set_option maxHeartbeats 1000000 in
theorem run_eq_p3 (P Q : T3) (w : World) (d : Nat) : Sem.run Tryd.prog (Op.equalIn (d + 1 + 1) 98 (pV P) (pV Q)) w = .ok (P.1 == Q.1 && (P.2.1 == Q.2.1 && P.2.2 == Q.2.2)) w := by
  have hz : ∀ w, Sem.run Tryd.prog (sizeOf 3) w = .ok 1 w := fun _ => by kernel_rfl
  have ha : ∀ w, Sem.run Tryd.prog (isAgg 3) w = .ok false w := fun _ => by kernel_rfl
  have hr : List.range' 0 3 = [0, 1, 2] := rfl
  rw [Op.equalIn]
  simp only [Sem.run_bind, run_underlying Tryd.underlying98, Result.andThen_ok, hz]
  simp only [Std.Legacy.Range.forIn_eq_forIn_range', Std.Legacy.Range.size, Nat.sub_zero, Nat.add_sub_cancel, Nat.div_one, hr]
  simp only [List.forIn_cons, List.forIn_nil, Sem.run_bind, part, ha, Result.andThen_ok]
  by_cases h1 : P.1 = Q.1 <;> by_cases h2 : P.2.1 = Q.2.1 <;> by_cases h3 : P.2.2 = Q.2.2 <;> simp [run_eq_int, h1, h2, h3, Sem.run_bind, Sem.run_pure, Result.andThen_ok, ha]
theorem run_eql_three (a b c d e f : Int) (w : World) : Sem.run Tryd.prog (Op.equalIn 10000 98 (.agg #[.int .i64 a, .int .i64 b, .int .i64 c]) (.agg #[.int .i64 d, .int .i64 e, .int .i64 f])) w = .ok (a == d && (b == e && c == f)) w := run_eq_p3 (a, b, c) (d, e, f) w 9998
attribute [go_sem high] run_eql_three
end Go.Proofs.YtdbglpaejmhbjaaDoor
