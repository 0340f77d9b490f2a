/- Two closed facts on the program. -/
import Derived.Test.YtffnhcioponbbaaL
import Derived.Test.YtffnhcioponbbaaRows
namespace Go.Proofs.Ytffnhcioponbbaa
theorem Try.own : ownKnob Try.prog.godebug = none := by kernel_rfl
theorem Try.laidOut : laidOutB Try.prog = true := by kernel_rfl
end Go.Proofs.Ytffnhcioponbbaa
