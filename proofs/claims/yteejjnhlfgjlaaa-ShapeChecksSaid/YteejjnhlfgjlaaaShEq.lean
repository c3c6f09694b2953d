/-
 Equal shapes.
-/
import Derived.Test.YteejjnhlfgjlaaaStF
namespace Go.Proofs.Yteejjnhlfgjlaaa
open Go.RowKit
set_option linter.unusedVariables false
set_option linter.unusedSimpArgs false
theorem eqIn_shape (d : Nat) (a b c x y z : Int) (w : World) : (Op.equalIn (d + 2) 24 (.agg #[.int .i64 a, .int .i64 b, .int .i64 c]) (.agg #[.int .i64 x, .int .i64 y, .int .i64 z])).run Try.prog w = .ok (decide (a = x ∧ b = y ∧ c = z)) w := by
 have h := Try.underlying24; have h2 := Try.underlying3; simp [Op.equalIn, run_underlying h, run_underlying h2, part, go_sem]
 by_cases h1 : a = x <;> by_cases h3 : b = y <;> by_cases h4 : c = z <;> simp [h1, h3, h4]
theorem shape_eq (a b c x y z : Int) (w : World) : (binOp .eql 24 (.agg #[.int .i64 a, .int .i64 b, .int .i64 c]) (.agg #[.int .i64 x, .int .i64 y, .int .i64 z])).run Try.prog w = .ok (.bool (decide (a = x ∧ b = y ∧ c = z))) w := by
 have h := Try.underlying24; simp [binOp, run_underlying h, go_sem, Op.equal, Op.maxDepth, eqIn_shape 9998]
theorem shape_ne (a b c x y z : Int) (w : World) : (binOp .neq 24 (.agg #[.int .i64 a, .int .i64 b, .int .i64 c]) (.agg #[.int .i64 x, .int .i64 y, .int .i64 z])).run Try.prog w = .ok (.bool (!decide (a = x ∧ b = y ∧ c = z))) w := by
 have h := Try.underlying24; simp [binOp, run_underlying h, go_sem, Op.equal, Op.maxDepth, eqIn_shape 9998]
end Go.Proofs.Yteejjnhlfgjlaaa
