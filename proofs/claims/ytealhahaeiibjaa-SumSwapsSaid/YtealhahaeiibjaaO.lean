/- Two closed facts on the program. -/
import Derived.Test.YtealhahaeiibjaaL
import Derived.Test.YtealhahaeiibjaaRows
namespace Go.Proofs.Ytealhahaeiibjaa
theorem Try.own : ownKnob Try.prog.godebug = none := by kernel_rfl
theorem Try.laidOut : laidOutB Try.prog = true := by kernel_rfl
end Go.Proofs.Ytealhahaeiibjaa
