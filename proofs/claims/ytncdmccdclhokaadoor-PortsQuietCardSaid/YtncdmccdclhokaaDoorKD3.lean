/- The ports' laws: bytes in an argument, with their room. -/
import Derived.Test.YtncdmccdclhokaaDoorKD2
import Derived.Test.YtncdmccdclhokaaDoorG13
namespace Go.Proofs.YtncdmccdclhokaaDoor
open Go.ChangeShapes Go.WideShapes Go.ChangeAt Go.RowKit Go.Sl Go.Xg
set_option maxRecDepth 100000

theorem bytec_arg {H : Type} {enc : TypeId × Value → H} {W : World} {te : TypeId} (hb : W.heap[0]? = some (.cells #[.int .u64 9, .int .u64 3, .int .u64 5, .int .u64 7] te)) {a : Option Addr} {n c : Nat} {d : DataW H} {ps : List MemPlace}
    (h : DataW.Trod enc Tryd.prog W 0 (fun _ => true) true 35 (.slice a n c) d ps) :
    ∃ l : List Int, l.length = n ∧ n ≤ maxLen ∧ Reads (oldBut 0 W) 1 (.slice a n c) n (l.map (Value.int .u8)) ∧ n ≤ c ∧ isB l := by
  obtain ⟨l, h1, h2, h3, h4⟩ := bytes_arg hb h
  exact ⟨l, h1, h2, h3, open_len_cap Tryd.underlying35 Tryd.underlying5 (by kernel_rfl) h, h4⟩

end Go.Proofs.YtncdmccdclhokaaDoor
