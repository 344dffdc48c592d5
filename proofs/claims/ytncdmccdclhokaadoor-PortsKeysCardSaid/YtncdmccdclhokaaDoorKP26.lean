/- The ports' laws: buttons. -/
import Derived.Test.YtncdmccdclhokaaDoorKP22
import Derived.Test.YtncdmccdclhokaaDoorKP23
import Derived.Test.YtncdmccdclhokaaDoorKP24
import Derived.Test.YtncdmccdclhokaaDoorKP25
namespace Go.Proofs.YtncdmccdclhokaaDoor
open Go.Sl Go.Xg
set_option linter.unusedVariables false
set_option linter.unusedSimpArgs false
set_option maxHeartbeats 4000000
set_option maxRecDepth 100000
variable {te : TypeId}

theorem keysL_d (A : HP) (la : Option Addr) (n lc : Nat) (l : List Act) (hn : l.length = n) (hn2 : n ≤ maxLen) (hr : Reads A 3 (.slice la n lc) n (recs actC l)) (hl : ∀ i, i < n → (l.getD i default).ok)
    (v : Int) (hv : i64ok v) (v2 : Int) (hv2 : i64ok v2) (v3 : Int) (hv3 : i64ok v3) :
    Does Tryd.prog 4 [.slice la n lc, .int .i64 v, .int .i64 v2, .int .i64 v3] [(Drv te), A] (Ret (.bool true) [(Drv te), A]) := by
  have hk := pickN_lt v 4 (by omega)
  rcases (show pickN v 4 = 0 ∨ pickN v 4 = 1 ∨ pickN v 4 = 2 ∨ pickN v 4 = 3 by omega) with h | h | h | h
  · exact keysL_0 A la n lc l hn hn2 hr hl v hv v2 hv2 v3 hv3 h
  · exact keysL_1 A la n lc l hn hn2 hr hl v hv v2 hv2 v3 hv3 h
  · exact keysL_2 A la n lc l hn hn2 hr hl v hv v2 hv2 v3 hv3 h
  · exact keysL_3 A la n lc l hn hn2 hr hl v hv v2 hv2 v3 hv3 h

end Go.Proofs.YtncdmccdclhokaaDoor
