/- Two closed facts on the program. -/
import Derived.Test.YtadnedoecbfojaaL
import Derived.Test.YtadnedoecbfojaaRows
namespace Go.Proofs.Ytadnedoecbfojaa
theorem Try.own : ownKnob Try.prog.godebug = none := by kernel_rfl
theorem Try.laidOut : laidOutB Try.prog = true := by kernel_rfl
end Go.Proofs.Ytadnedoecbfojaa
