/- Two closed facts on the program. -/
import Derived.Test.YtfljkaigfmedeaaL
import Derived.Test.YtfljkaigfmedeaaRows
namespace Go.Proofs.Ytfljkaigfmedeaa
theorem Try.own : ownKnob Try.prog.godebug = none := by kernel_rfl
theorem Try.laidOut : laidOutB Try.prog = true := by kernel_rfl
end Go.Proofs.Ytfljkaigfmedeaa
