import Derived.Test.YthjhkondmobaeaaDoorMRam6
import Derived.ProofKit
import Derived.OpenShut
import Derived.ChangeOld
import Derived.Below
/- From what came in to readings under 'old', and back to 'Below'. -/
namespace Go.Sl
open Go Go.RowKit

/-- A slice of integers that came in: nil; or it leads to a row of 'cap' cells, the numbers 'zs' (the first 'len' are its elements), each fitting its kind. -/
def IsRow (k : IntKind) (w : World) (a : Option Addr) (len cap : Nat) (zs : List Int) : Prop :=
  (a = none ∧ len = 0 ∧ cap = 0 ∧ zs = []) ∨
  ∃ x, a = some x ∧ len ≤ cap ∧ cap ≤ maxLen ∧ zs.length = cap ∧ (∀ i, i < zs.length → w.cell? (x.add i) = some (.int k (zs.getD i 0))) ∧ ∀ n ∈ zs, (Lit.int k n).wf = true

end Go.Sl
