
/- '==' of two arrays of two numbers. (The proof's lines after the worked text Cov2Walks.) -/
import Derived.Test.YtnmehelejdbjaaaRow
import Derived.Laws.StructEq
import Derived.Laws.Tables
import Derived.KernelRfl
namespace Go.Proofs.Ytnmehelejdbjaaa
open Go.RowKit
theorem eq_A2 (a b c d : Int) (w : World) : (Op.equalIn 10000 26 (.agg #[.int .i64 a, .int .i64 b]) (.agg #[.int .i64 c, .int .i64 d])).run Try.prog w = .ok (a == c && b == d) w := by
  have u3 := Try.underlying2
  have a3 := Try.isAgg2
  have z3 := Try.sizeOf2
  rw [show (10000 : Nat) = 9999 + 1 from rfl, Op.equalIn]
  simp only [Sem.run_bind, run_underlying Try.underlying26, Result.andThen_ok]
  simp only [Std.Legacy.Range.forIn_eq_forIn_range', Std.Legacy.Range.size, Nat.sub_zero, Nat.add_sub_cancel, Nat.div_one, List.range'_succ, List.range'_zero, List.forIn_cons, List.forIn_nil]
  go_simp
  by_cases h1 : a = c <;> by_cases h2 : b = d <;> simp [h1, h2]
end Go.Proofs.Ytnmehelejdbjaaa
