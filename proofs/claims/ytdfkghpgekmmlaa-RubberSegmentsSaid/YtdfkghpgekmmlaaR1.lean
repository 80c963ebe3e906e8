/- What every row needs of the program, once. -/
import Derived.Test.YtdfkghpgekmmlaaR0
namespace Go.Proofs.Ytdfkghpgekmmlaa
theorem own_knob : ownKnob Try.prog.godebug = none := by kernel_rfl
theorem laidOut : laidOutB Try.prog = true := by kernel_rfl
end Go.Proofs.Ytdfkghpgekmmlaa
