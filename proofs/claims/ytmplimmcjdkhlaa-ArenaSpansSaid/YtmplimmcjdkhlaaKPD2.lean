/- The arena laws: bytes in an argument, with their capacity. -/
import Derived.Test.YtmplimmcjdkhlaaKPD1
import Derived.Test.YtmplimmcjdkhlaaKS
namespace Go.Proofs.Ytmplimmcjdkhlaa
open Go.ChangeShapes Go.WideShapes Go.ChangeAt Go.RowKit Go.Sl Go.Xg
set_option maxRecDepth 100000
theorem bytec_arg {H : Type} {enc : TypeId × Value → H} {W : World} {a : Option Addr} {n c : Nat} {d : DataW H} {ps : List MemPlace}
    (h : DataW.Trod enc Try.prog W 0 (fun _ => true) true 40 (.slice a n c) d ps) :
    ∃ l : List Int, l.length = n ∧ n ≤ maxLen ∧ Reads (old W) 1 (.slice a n c) n (l.map (Value.int .u8)) ∧ n ≤ c ∧ ∀ i, i < n → 0 ≤ l.getD i 0 ∧ l.getD i 0 ≤ 255 := by
  obtain ⟨l, h1, h2, h3, h4⟩ := bytes_arg h
  refine ⟨l, h1, h2, h3, ?_, h4⟩
  obtain ⟨fuel, hf⟩ := h
  rcases Deep.open_slice Try.underlying40 hf with ⟨hcs, _⟩ | ⟨x, l, c', m, k, D, Pl, hcs, _, hl, hm, hmm, _, hel⟩
  · cases List.head_eq_of_cons_eq (show [Value.slice a n c] = [Value.slice none 0 0] from hcs)
    exact Nat.zero_le _
  · cases List.head_eq_of_cons_eq (show [Value.slice a n c] = [Value.slice (some x) l c'] from hcs)
    exact hl
end Go.Proofs.Ytmplimmcjdkhlaa
