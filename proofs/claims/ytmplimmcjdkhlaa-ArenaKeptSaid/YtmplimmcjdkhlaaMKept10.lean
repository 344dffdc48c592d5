import Derived.Test.YtmplimmcjdkhlaaMKept9
import Derived.Test.YtmplimmcjdkhlaaRows
import Derived.ProofKit
/- The arena laws: numbers in an argument. -/
namespace Go.Proofs.Ytmplimmcjdkhlaa
open Go.ChangeShapes Go.WideShapes Go.ChangeAt Go.RowKit Go.Sl Go.Xg
set_option maxRecDepth 100000

def i64ok (x : Int) : Prop := -9223372036854775808 ≤ x ∧ x ≤ 9223372036854775807
theorem ownK : ownKnob Try.prog.godebug = none := by kernel_rfl
theorem laidOutK : laidOutB Try.prog = true := by kernel_rfl

end Go.Proofs.Ytmplimmcjdkhlaa

/- The arena laws: bytes in an argument, with their capacity. -/
namespace Go.Proofs.Ytmplimmcjdkhlaa
open Go.ChangeShapes Go.WideShapes Go.ChangeAt Go.RowKit Go.Sl Go.Xg
set_option maxRecDepth 100000
end Go.Proofs.Ytmplimmcjdkhlaa
