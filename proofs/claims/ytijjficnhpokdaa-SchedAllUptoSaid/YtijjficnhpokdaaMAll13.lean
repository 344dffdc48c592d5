import Derived.Test.YtijjficnhpokdaaMAll12
import Derived.Test.YtijjficnhpokdaaRows
import Derived.ProofKit
/- The sched laws: numbers, and acts, in an argument. -/
namespace Go.Proofs.Ytijjficnhpokdaa
open Go.ChangeShapes Go.WideShapes Go.ChangeAt Go.RowKit Go.Sl Go.Xg
set_option maxRecDepth 100000

theorem ownK : ownKnob Try.prog.godebug = none := by kernel_rfl
theorem laidOutK : laidOutB Try.prog = true := by kernel_rfl

abbrev acC (x : Int × Int) : List Value := [.int .i64 x.1, .int .i64 x.2]
end Go.Proofs.Ytijjficnhpokdaa

/- The sched laws: acts in an argument, with their capacity. -/
namespace Go.Proofs.Ytijjficnhpokdaa
open Go.ChangeShapes Go.WideShapes Go.ChangeAt Go.RowKit Go.Sl Go.Xg
set_option maxRecDepth 100000
end Go.Proofs.Ytijjficnhpokdaa
