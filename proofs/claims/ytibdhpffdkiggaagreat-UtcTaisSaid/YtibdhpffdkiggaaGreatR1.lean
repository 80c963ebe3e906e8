/- What every row needs of the program, once. -/
import Derived.Test.YtibdhpffdkiggaaGreatR0
namespace Go.Proofs.YtibdhpffdkiggaaGreat
theorem own_knob : ownKnob Tryz.prog.godebug = none := by kernel_rfl
theorem laidOut : laidOutB Tryz.prog = true := by kernel_rfl
end Go.Proofs.YtibdhpffdkiggaaGreat
