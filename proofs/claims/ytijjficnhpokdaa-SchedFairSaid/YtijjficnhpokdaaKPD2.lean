/- The sched laws: acts in an argument, with their capacity. -/
import Derived.Test.YtijjficnhpokdaaKPD1
import Derived.Test.YtijjficnhpokdaaKS
namespace Go.Proofs.Ytijjficnhpokdaa
open Go.ChangeShapes Go.WideShapes Go.ChangeAt Go.RowKit Go.Sl Go.Xg
set_option maxRecDepth 100000
theorem actc_arg {H : Type} {enc : TypeId × Value → H} {W : World} {a : Option Addr} {n c : Nat} {d : DataW H} {ps : List MemPlace}
    (h : DataW.Trod enc Try.prog W 0 (fun _ => true) true 27 (.slice a n c) d ps) :
    ∃ l : List (Int × Int), l.length = n ∧ n ≤ maxLen ∧ Reads (old W) 2 (.slice a n c) n (recs acC l) ∧ n ≤ c ∧ ∀ i, i < n → i64ok (l.getD i default).1 ∧ i64ok (l.getD i default).2 := by
  obtain ⟨l, h1, h2, h3, h4⟩ := acts_arg h
  refine ⟨l, h1, h2, h3, ?_, h4⟩
  obtain ⟨fuel, hf⟩ := h
  rcases Deep.open_slice Try.underlying27 hf with ⟨hcs, _⟩ | ⟨x, l, c', m, k, D, Pl, hcs, _, hl, hm, hmm, _, hel⟩
  · cases List.head_eq_of_cons_eq (show [Value.slice a n c] = [Value.slice none 0 0] from hcs)
    exact Nat.zero_le _
  · cases List.head_eq_of_cons_eq (show [Value.slice a n c] = [Value.slice (some x) l c'] from hcs)
    exact hl
end Go.Proofs.Ytijjficnhpokdaa
