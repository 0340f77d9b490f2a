/- Two closed facts on the program. -/
import Derived.Test.YtpamjfbdgaamoaaL
import Derived.Test.YtpamjfbdgaamoaaRows
namespace Go.Proofs.Ytpamjfbdgaamoaa
theorem Try.own : ownKnob Try.prog.godebug = none := by kernel_rfl
theorem Try.laidOut : laidOutB Try.prog = true := by kernel_rfl
end Go.Proofs.Ytpamjfbdgaamoaa
