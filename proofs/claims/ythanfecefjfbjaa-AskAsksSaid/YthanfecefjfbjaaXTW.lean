/- How two windows of an answer compare: exactly as their values do. -/
import Derived.Test.YthanfecefjfbjaaXLA
import Derived.Test.YthanfecefjfbjaaXT
namespace Go.Proofs.Ythanfecefjfbjaa
open Go.RowKit Go.ChangeShapes Go.WideShapes Go.ChangeAt
theorem Try.eqWin (a b : Win) (w : World) : (Op.equalIn 10000 56 (.agg #[.int .i64 a.Tier, .int .i64 a.Lo, .int .i64 a.Hi, .int .i64 a.Agg.From, .int .i64 a.Agg.Count, .int .i64 a.Agg.Sum, .int .i64 a.Agg.Min, .int .i64 a.Agg.Max, .int .i64 a.Agg.First, .int .i64 a.Agg.Last]) (.agg #[.int .i64 b.Tier, .int .i64 b.Lo, .int .i64 b.Hi, .int .i64 b.Agg.From, .int .i64 b.Agg.Count, .int .i64 b.Agg.Sum, .int .i64 b.Agg.Min, .int .i64 b.Agg.Max, .int .i64 b.Agg.First, .int .i64 b.Agg.Last])).run Try.prog w = .ok (decide (a = b)) w :=
  eq_win 9997 Try.underlying56 Try.stoodInHeld56 ⟨rfl, Try.underlying3, (by decide)⟩ ⟨rfl, Try.underlying2, (by decide)⟩ ⟨rfl, Try.underlying2, (by decide)⟩ ⟨rfl, (by decide)⟩ Try.isAgg37 Try.sizeOf37 Try.underlying37 ⟨rfl, Try.underlying2, (by kernel_rfl), (by decide), rfl, Try.underlying2, (by kernel_rfl), (by decide), rfl, Try.underlying2, (by kernel_rfl), (by decide), rfl, Try.underlying2, (by kernel_rfl), (by decide), rfl, Try.underlying2, (by kernel_rfl), (by decide), rfl, Try.underlying2, (by kernel_rfl), (by decide), rfl, Try.underlying2, (by kernel_rfl), (by decide), trivial⟩ Try.stoodInHeld37 a b w
end Go.Proofs.Ythanfecefjfbjaa
