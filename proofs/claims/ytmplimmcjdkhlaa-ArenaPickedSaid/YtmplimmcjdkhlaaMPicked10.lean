import Derived.Test.YtmplimmcjdkhlaaMPicked9
import Derived.Test.YtmplimmcjdkhlaaRows
import Derived.ProofKit
/- The arena laws: numbers in an argument. -/
namespace Go.Proofs.Ytmplimmcjdkhlaa
open Go.ChangeShapes Go.WideShapes Go.ChangeAt Go.RowKit Go.Sl Go.Xg
set_option maxRecDepth 100000

def i64ok (x : Int) : Prop := -9223372036854775808 ≤ x ∧ x ≤ 9223372036854775807
theorem ownK : ownKnob Try.prog.godebug = none := by kernel_rfl
theorem laidOutK : laidOutB Try.prog = true := by kernel_rfl

theorem ints_arg {H : Type} {enc : TypeId × Value → H} {W : World} {a : Option Addr} {n c : Nat} {d : DataW H} {ps : List MemPlace}
    (h : DataW.Trod enc Try.prog W 0 (fun _ => true) true 24 (.slice a n c) d ps) :
    ∃ l : List Int, l.length = n ∧ n ≤ maxLen ∧ Reads (old W) 1 (.slice a n c) n (l.map (Value.int .i64)) ∧ ∀ i, i < n → i64ok (l.getD i 0) := by
  obtain ⟨l, hl, hm, hw, hc⟩ := open_ints_rd Try.underlying24 Try.underlying3 (by kernel_rfl) h
  refine ⟨l, hl, hm, reads_old (by simp [hl]) hc, fun i hi => ?_⟩
  have : l.getD i 0 ∈ l := by simp [List.getD, show i < l.length by omega]
  exact bounds_i64 (hw _ this)

end Go.Proofs.Ytmplimmcjdkhlaa

/- The arena laws: bytes in an argument, with their capacity. -/
namespace Go.Proofs.Ytmplimmcjdkhlaa
open Go.ChangeShapes Go.WideShapes Go.ChangeAt Go.RowKit Go.Sl Go.Xg
set_option maxRecDepth 100000
end Go.Proofs.Ytmplimmcjdkhlaa
