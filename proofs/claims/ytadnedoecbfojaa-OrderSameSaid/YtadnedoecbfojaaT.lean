/- The program's structs of numbers: how they read and how two are compared. -/
import Derived.Test.YtadnedoecbfojaaC
import Derived.Test.YtadnedoecbfojaaOI
import Derived.Test.YtadnedoecbfojaaRows
namespace Go.Proofs.Ytadnedoecbfojaa
open Go.RowKit Go.ChangeShapes Go.WideShapes Go.ChangeAt
theorem Try.opensInfo : Opens Try.prog 34 infoE Info.ok := opens_info Try.underlying34 ⟨rfl, Try.underlying3, (by kernel_rfl), (by decide), rfl, Try.underlying3, (by kernel_rfl), (by decide), rfl, Try.underlying2, (by kernel_rfl), (by decide), rfl, Try.underlying2, (by kernel_rfl), (by decide), rfl, Try.underlying32, (by kernel_rfl), (by decide), trivial⟩ (by kernel_rfl)
theorem Try.eqInfo (a b : Info) (w : World) : (Op.equalIn 10000 34 (.agg #[.int .i64 a.Id, .int .i64 a.Tier, .int .i64 a.From, .int .i64 a.To, .int .u32 a.Sum]) (.agg #[.int .i64 b.Id, .int .i64 b.Tier, .int .i64 b.From, .int .i64 b.To, .int .u32 b.Sum])).run Try.prog w = .ok (decide (a = b)) w := eq_info 9998 Try.underlying34 ⟨rfl, Try.underlying3, (by kernel_rfl), (by decide), rfl, Try.underlying3, (by kernel_rfl), (by decide), rfl, Try.underlying2, (by kernel_rfl), (by decide), rfl, Try.underlying2, (by kernel_rfl), (by decide), rfl, Try.underlying32, (by kernel_rfl), (by decide), trivial⟩ Try.stoodInHeld34 a b w
end Go.Proofs.Ytadnedoecbfojaa
