import Derived.Test.YthjhkondmobaeaaDoorMRam10
import Derived.Lib.Overlaps
/- Symbolic running: what slices.Insert does: append(x[:i], make(..)...) that must grow, a slice made longer into its room, copy into a part of it, slices.overlaps. Over any program. -/
namespace Go.Xg
open Go Go.Sl
set_option linter.unusedVariables false
section
variable {P : Program} {f : FuncId} {g : World} {F : List HP} {R : Ending → World → Prop} {k : List Item} {T : List Value} {L : List HP} {K : List Value → List HP → Prop}

end
end Go.Xg
