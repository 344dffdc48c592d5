/- The picture's laws: memory. -/
import Derived.Test.YtkfclamiendamaaKV6
import Derived.Test.YtkfclamiendamaaKV7
import Derived.Test.YtkfclamiendamaaKV8
import Derived.Test.YtkfclamiendamaaKV9
namespace Go.Proofs.Ytkfclamiendamaa
open Go.Sl Go.Xg
set_option linter.unusedVariables false
set_option linter.unusedSimpArgs false
set_option maxHeartbeats 4000000
set_option maxRecDepth 100000

theorem pmem_d (A : HP) (la : Option Addr) (na ca : Nat) (xs : List Int) (hna : xs.length = na) (hna2 : na ≤ maxLen) (hra : Reads A 1 (.slice la na ca) na (xs.map (Value.int .i64))) (hxa : ∀ i, i < na → i64ok (xs.getD i 0))
    (lb : Option Addr) (nb cb : Nat) (ys : List Int) (hnb : ys.length = nb) (hnb2 : nb ≤ maxLen) (hrb : Reads A 1 (.slice lb nb cb) nb (ys.map (Value.int .u8))) (hB : ∀ i, i < nb → 0 ≤ ys.getD i 0 ∧ ys.getD i 0 ≤ 255)
    (lc : Option Addr) (nc cc : Nat) (zs : List Int) (hnc : zs.length = nc) (hnc2 : nc ≤ maxLen) (hrc : Reads A 1 (.slice lc nc cc) nc (zs.map (Value.int .i64))) (hxc : ∀ i, i < nc → i64ok (zs.getD i 0)) :
    Does Try.prog 4 [.slice la na ca, .slice lb nb cb, .slice lc nc cc] [A] (Ret (.bool true) [A]) := by
  rcases Nat.lt_or_ge nb na with h1 | h1 <;> rcases Nat.lt_or_ge nc 8 with h2 | h2
  · exact pmem_2 A la na ca xs hna hna2 hra hxa lb nb cb ys hnb hnb2 hrb hB lc nc cc zs hnc hnc2 hrc hxc h1 (by omega)
  · exact pmem_3 A la na ca xs hna hna2 hra hxa lb nb cb ys hnb hnb2 hrb hB lc nc cc zs hnc hnc2 hrc hxc h1 h2
  · exact pmem_0 A la na ca xs hna hna2 hra hxa lb nb cb ys hnb hnb2 hrb hB lc nc cc zs hnc hnc2 hrc hxc h1 (by omega)
  · exact pmem_1 A la na ca xs hna hna2 hra hxa lb nb cb ys hnb hnb2 hrb hB lc nc cc zs hnc hnc2 hrc hxc h1 h2

end Go.Proofs.Ytkfclamiendamaa
