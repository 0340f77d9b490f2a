/- How two windows of an answer compare: exactly as their values do. -/
import Derived.Test.YtldfnkhccaglmaaXLA
import Derived.Test.YtldfnkhccaglmaaXT
namespace Go.Proofs.Ytldfnkhccaglmaa
open Go.RowKit Go.ChangeShapes Go.WideShapes Go.ChangeAt
theorem Try.eqWin (a b : Win) (w : World) : (Op.equalIn 10000 33 (.agg #[.int .i64 a.Tier, .int .i64 a.Lo, .int .i64 a.Hi, .int .i64 a.Agg.From, .int .i64 a.Agg.Count, .int .i64 a.Agg.Sum, .int .i64 a.Agg.Min, .int .i64 a.Agg.Max, .int .i64 a.Agg.First, .int .i64 a.Agg.Last]) (.agg #[.int .i64 b.Tier, .int .i64 b.Lo, .int .i64 b.Hi, .int .i64 b.Agg.From, .int .i64 b.Agg.Count, .int .i64 b.Agg.Sum, .int .i64 b.Agg.Min, .int .i64 b.Agg.Max, .int .i64 b.Agg.First, .int .i64 b.Agg.Last])).run Try.prog w = .ok (decide (a = b)) w :=
  eq_win 9997 Try.underlying33 Try.stoodInHeld33 ⟨rfl, Try.underlying3, (by decide)⟩ ⟨rfl, Try.underlying2, (by decide)⟩ ⟨rfl, Try.underlying2, (by decide)⟩ ⟨rfl, (by decide)⟩ Try.isAgg29 Try.sizeOf29 Try.underlying29 ⟨rfl, Try.underlying2, (by kernel_rfl), (by decide), rfl, Try.underlying2, (by kernel_rfl), (by decide), rfl, Try.underlying2, (by kernel_rfl), (by decide), rfl, Try.underlying2, (by kernel_rfl), (by decide), rfl, Try.underlying2, (by kernel_rfl), (by decide), rfl, Try.underlying2, (by kernel_rfl), (by decide), rfl, Try.underlying2, (by kernel_rfl), (by decide), trivial⟩ Try.stoodInHeld29 a b w
end Go.Proofs.Ytldfnkhccaglmaa
