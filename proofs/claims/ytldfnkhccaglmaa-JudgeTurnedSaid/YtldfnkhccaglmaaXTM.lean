/- Keys of maps in this program; how the judge's records open. -/
import Derived.Test.YtldfnkhccaglmaaXLB
import Derived.Test.YtldfnkhccaglmaaXT
namespace Go.Proofs.Ytldfnkhccaglmaa
open Go.RowKit Go.ChangeShapes Go.WideShapes Go.ChangeAt
theorem Try.keys2 : KeyOk Try.prog 2 encI := keysI Try.underlying2
theorem Try.keys51 : KeyOk Try.prog 51 encS := keysS Try.underlying51 ⟨rfl, Try.underlying2, (by decide)⟩ ⟨rfl, Try.underlying2, (by decide)⟩ Try.eqSample
theorem Try.opensGrant : Opens Try.prog 58 grantE Grant.ok := opens_grant Try.underlying58 ⟨rfl, Try.underlying3, (by kernel_rfl), (by decide), rfl, Try.underlying3, (by kernel_rfl), (by decide), trivial⟩ (by kernel_rfl)
theorem Try.opensTold : Opens Try.prog 54 toldE Told.ok := opens_told Try.underlying54 (by kernel_rfl) ⟨rfl, rfl, rfl, rfl⟩ ⟨(by kernel_rfl), (by kernel_rfl), (by kernel_rfl), (by kernel_rfl)⟩ Try.opensSample Try.underlying3 Try.underlying3 Try.underlying4
theorem Try.opensW : Opens Try.prog 31 winE Win.ok := opens_win Try.underlying31 (by kernel_rfl) ⟨rfl, rfl, rfl, rfl⟩ ⟨(by kernel_rfl), (by kernel_rfl), (by kernel_rfl), (by kernel_rfl)⟩ Try.underlying3 Try.underlying2 Try.underlying2 Try.opensAgg
end Go.Proofs.Ytldfnkhccaglmaa
