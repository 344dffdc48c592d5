import Derived.Test.YthjhkondmobaeaaMChecks5
import Derived.Deep.Strs
import Derived.Deep.Slices
import Derived.Carry
/- From a start where one variable's block stands apart; records read in an argument. Over any program. -/
namespace Go.Xg
open Go Go.Sl
set_option linter.unusedVariables false

/-- All that was there in a world, but for one block. -/
def oldBut (b : Nat) (w0 : World) : HP := fun m => m = fun k => if k = b then none else w0.heap[k]?

end Go.Xg
