/-
  No cell of these rows narrows 'for every input' (looked for: loops, veiled, ifaces, maps, wideKeys, modest, calm, conditions, laid).
  DERIVED. THE GIVEN ROWS OF THIS SEAT. 9 by the template 'for every input the law returns true; each argument reads behind the call as it read before'; 0 by the template 'total and deterministic' (their statements: YtmplimmcjdkhlaaTotals.lean).
  GIVEN WITH THE SEED: the statements are not yours to turn. If you find one false, say at which input.
  Laid BY PROGRAM, IN A SANDBOX (cutbox-rows.mjs): the forced cells as the released guide's own fill.sh prints them over the translation 23f52ad4ff52d7af… (all of the seat's roots in one cut). By AI agents, Wed Nov 11 2026. No macro, syntax, notation, axiom, sorry.
-/
import Derived.Test.YtmplimmcjdkhlaaChecked
import GoSem.Claim
import GoSem.ClaimJoined
import GoSem.ClaimMapViews
import Derived.JoinedTies
import Derived.KernelRfl
namespace Go.Proofs.Ytmplimmcjdkhlaa
/- THE CELL 'sum', in the pinned program and in every row, IS THE sha256 OF THE DUMP (.gsa) THAT YtmplimmcjdkhlaaProg.lean LOADS. Nothing in Lean hashes anything: it is a label: what it is worth is what the hold of that sum in a sandbox is worth. -/
noncomputable def Try.pinned : Pinned := { name := "ytmplimmcjdkhlaa", sum := "23f52ad4ff52d7afb0b1cd76d59fa1939836a3809bbca55577d95ffb72a4a3e8", checked := Try.checked }
namespace Rows
def none {H : Type} : Left H := { results := [], args := [] }

/-- 'arcadelaw9.ArenaNames': WHATEVER THE INPUT: true; the input reads as it did. -/
def arenaNamesSpec : ChangeSpec := { name := "arenaNames", fn := fun _ => fun
  | [] => { results := [.lit (.bool true)], args := [] }
  | _ => none }
def arenaNamesRow : OpenClaim := { program := "ytmplimmcjdkhlaa", sum := "23f52ad4ff52d7afb0b1cd76d59fa1939836a3809bbca55577d95ffb72a4a3e8", func := "arcade/arcadelaw9.ArenaNames", spec := "arenaNames", apart := false }
def ArenaNamesSaid : Prop := arenaNamesRow.holds Try.pinned (OpenSpec.ofChange arenaNamesSpec)

/-- ITS FALSE NEIGHBOUR: 'it returns false'. Refute it at one input. -/
def arenaNamesWrong : ChangeSpec := { name := "arenaNames", fn := fun _ => fun
  | [] => { results := [.lit (.bool false)], args := [] }
  | _ => none }
def ArenaNamesWrongFalsely : Prop := arenaNamesRow.holds Try.pinned (OpenSpec.ofChange arenaNamesWrong)

/-- 'arcadelaw9.ArenaNumbers': WHATEVER THE INPUT: true; the input reads as it did. -/
def arenaNumbersSpec : ChangeSpec := { name := "arenaNumbers", fn := fun _ => fun
  | [d1, d2] => { results := [.lit (.bool true)], args := [d1, d2] }
  | _ => none }
def arenaNumbersRow : OpenClaim := { program := "ytmplimmcjdkhlaa", sum := "23f52ad4ff52d7afb0b1cd76d59fa1939836a3809bbca55577d95ffb72a4a3e8", func := "arcade/arcadelaw9.ArenaNumbers", spec := "arenaNumbers", inPlace := ["slices.overlaps[int]"], unfollowed := true, recurses := true, apart := false }
def ArenaNumbersSaid : Prop := arenaNumbersRow.holds Try.pinned (OpenSpec.ofChange arenaNumbersSpec)

/-- ITS FALSE NEIGHBOUR: 'it returns false'. Refute it at one input. -/
def arenaNumbersWrong : ChangeSpec := { name := "arenaNumbers", fn := fun _ => fun
  | [d1, d2] => { results := [.lit (.bool false)], args := [d1, d2] }
  | _ => none }
def ArenaNumbersWrongFalsely : Prop := arenaNumbersRow.holds Try.pinned (OpenSpec.ofChange arenaNumbersWrong)

/-- 'arcadelaw9.ArenaSpans': WHATEVER THE INPUT: true; the input reads as it did. -/
def arenaSpansSpec : ChangeSpec := { name := "arenaSpans", fn := fun _ => fun
  | [d1, d2, d3, d4] => { results := [.lit (.bool true)], args := [d1, d2, d3, d4] }
  | _ => none }
def arenaSpansRow : OpenClaim := { program := "ytmplimmcjdkhlaa", sum := "23f52ad4ff52d7afb0b1cd76d59fa1939836a3809bbca55577d95ffb72a4a3e8", func := "arcade/arcadelaw9.ArenaSpans", spec := "arenaSpans", inPlace := ["slices.overlaps[int]"], unfollowed := true, recurses := true, apart := false }
def ArenaSpansSaid : Prop := arenaSpansRow.holds Try.pinned (OpenSpec.ofChange arenaSpansSpec)

/-- ITS FALSE NEIGHBOUR: 'it returns false'. Refute it at one input. -/
def arenaSpansWrong : ChangeSpec := { name := "arenaSpans", fn := fun _ => fun
  | [d1, d2, d3, d4] => { results := [.lit (.bool false)], args := [d1, d2, d3, d4] }
  | _ => none }
def ArenaSpansWrongFalsely : Prop := arenaSpansRow.holds Try.pinned (OpenSpec.ofChange arenaSpansWrong)

/-- 'arcadelaw9.ArenaQuota': WHATEVER THE INPUT: true; the input reads as it did. -/
def arenaQuotaSpec : ChangeSpec := { name := "arenaQuota", fn := fun _ => fun
  | [d1, d2, d3] => { results := [.lit (.bool true)], args := [d1, d2, d3] }
  | _ => none }
def arenaQuotaRow : OpenClaim := { program := "ytmplimmcjdkhlaa", sum := "23f52ad4ff52d7afb0b1cd76d59fa1939836a3809bbca55577d95ffb72a4a3e8", func := "arcade/arcadelaw9.ArenaQuota", spec := "arenaQuota", inPlace := ["slices.overlaps[int]"], unfollowed := true, recurses := true, apart := false }
def ArenaQuotaSaid : Prop := arenaQuotaRow.holds Try.pinned (OpenSpec.ofChange arenaQuotaSpec)

/-- ITS FALSE NEIGHBOUR: 'it returns false'. Refute it at one input. -/
def arenaQuotaWrong : ChangeSpec := { name := "arenaQuota", fn := fun _ => fun
  | [d1, d2, d3] => { results := [.lit (.bool false)], args := [d1, d2, d3] }
  | _ => none }
def ArenaQuotaWrongFalsely : Prop := arenaQuotaRow.holds Try.pinned (OpenSpec.ofChange arenaQuotaWrong)

/-- 'arcadelaw9.ArenaPicked': WHATEVER THE INPUT: true; the input reads as it did. -/
def arenaPickedSpec : ChangeSpec := { name := "arenaPicked", fn := fun _ => fun
  | [d1, d2, d3] => { results := [.lit (.bool true)], args := [d1, d2, d3] }
  | _ => none }
def arenaPickedRow : OpenClaim := { program := "ytmplimmcjdkhlaa", sum := "23f52ad4ff52d7afb0b1cd76d59fa1939836a3809bbca55577d95ffb72a4a3e8", func := "arcade/arcadelaw9.ArenaPicked", spec := "arenaPicked", inPlace := ["slices.overlaps[int]"], unfollowed := true, recurses := true, apart := false }
def ArenaPickedSaid : Prop := arenaPickedRow.holds Try.pinned (OpenSpec.ofChange arenaPickedSpec)

/-- ITS FALSE NEIGHBOUR: 'it returns false'. Refute it at one input. -/
def arenaPickedWrong : ChangeSpec := { name := "arenaPicked", fn := fun _ => fun
  | [d1, d2, d3] => { results := [.lit (.bool false)], args := [d1, d2, d3] }
  | _ => none }
def ArenaPickedWrongFalsely : Prop := arenaPickedRow.holds Try.pinned (OpenSpec.ofChange arenaPickedWrong)

/-- 'arcadelaw9.ArenaKept': WHATEVER THE INPUT: true; the input reads as it did. -/
def arenaKeptSpec : ChangeSpec := { name := "arenaKept", fn := fun _ => fun
  | [d1, d2, d3] => { results := [.lit (.bool true)], args := [d1, d2, d3] }
  | _ => none }
def arenaKeptRow : OpenClaim := { program := "ytmplimmcjdkhlaa", sum := "23f52ad4ff52d7afb0b1cd76d59fa1939836a3809bbca55577d95ffb72a4a3e8", func := "arcade/arcadelaw9.ArenaKept", spec := "arenaKept", inPlace := ["slices.overlaps[int]"], unfollowed := true, recurses := true, apart := false }
def ArenaKeptSaid : Prop := arenaKeptRow.holds Try.pinned (OpenSpec.ofChange arenaKeptSpec)

/-- ITS FALSE NEIGHBOUR: 'it returns false'. Refute it at one input. -/
def arenaKeptWrong : ChangeSpec := { name := "arenaKept", fn := fun _ => fun
  | [d1, d2, d3] => { results := [.lit (.bool false)], args := [d1, d2, d3] }
  | _ => none }
def ArenaKeptWrongFalsely : Prop := arenaKeptRow.holds Try.pinned (OpenSpec.ofChange arenaKeptWrong)

/-- 'arcadelaw9.ArenaSteps': WHATEVER THE INPUT: true; the input reads as it did. -/
def arenaStepsSpec : ChangeSpec := { name := "arenaSteps", fn := fun _ => fun
  | [d] => { results := [.lit (.bool true)], args := [d] }
  | _ => none }
def arenaStepsRow : OpenClaim := { program := "ytmplimmcjdkhlaa", sum := "23f52ad4ff52d7afb0b1cd76d59fa1939836a3809bbca55577d95ffb72a4a3e8", func := "arcade/arcadelaw9.ArenaSteps", spec := "arenaSteps", inPlace := ["slices.overlaps[int]"], unfollowed := true, recurses := true, apart := false }
def ArenaStepsSaid : Prop := arenaStepsRow.holds Try.pinned (OpenSpec.ofChange arenaStepsSpec)

/-- ITS FALSE NEIGHBOUR: 'it returns false'. Refute it at one input. -/
def arenaStepsWrong : ChangeSpec := { name := "arenaSteps", fn := fun _ => fun
  | [d] => { results := [.lit (.bool false)], args := [d] }
  | _ => none }
def ArenaStepsWrongFalsely : Prop := arenaStepsRow.holds Try.pinned (OpenSpec.ofChange arenaStepsWrong)

/-- 'arcadelaw9.ArenaStrangers': WHATEVER THE INPUT: true; the input reads as it did. -/
def arenaStrangersSpec : ChangeSpec := { name := "arenaStrangers", fn := fun _ => fun
  | [d1, d2, d3] => { results := [.lit (.bool true)], args := [d1, d2, d3] }
  | _ => none }
def arenaStrangersRow : OpenClaim := { program := "ytmplimmcjdkhlaa", sum := "23f52ad4ff52d7afb0b1cd76d59fa1939836a3809bbca55577d95ffb72a4a3e8", func := "arcade/arcadelaw9.ArenaStrangers", spec := "arenaStrangers", inPlace := ["slices.overlaps[int]"], unfollowed := true, recurses := true, apart := false }
def ArenaStrangersSaid : Prop := arenaStrangersRow.holds Try.pinned (OpenSpec.ofChange arenaStrangersSpec)

/-- ITS FALSE NEIGHBOUR: 'it returns false'. Refute it at one input. -/
def arenaStrangersWrong : ChangeSpec := { name := "arenaStrangers", fn := fun _ => fun
  | [d1, d2, d3] => { results := [.lit (.bool false)], args := [d1, d2, d3] }
  | _ => none }
def ArenaStrangersWrongFalsely : Prop := arenaStrangersRow.holds Try.pinned (OpenSpec.ofChange arenaStrangersWrong)

/-- 'arcadelaw9.ArenaApart': WHATEVER THE INPUT: true; the input reads as it did. -/
def arenaApartSpec : ChangeSpec := { name := "arenaApart", fn := fun _ => fun
  | [d1, d2, d3] => { results := [.lit (.bool true)], args := [d1, d2, d3] }
  | _ => none }
def arenaApartRow : OpenClaim := { program := "ytmplimmcjdkhlaa", sum := "23f52ad4ff52d7afb0b1cd76d59fa1939836a3809bbca55577d95ffb72a4a3e8", func := "arcade/arcadelaw9.ArenaApart", spec := "arenaApart", inPlace := ["slices.overlaps[int]"], unfollowed := true, recurses := true, apart := false }
def ArenaApartSaid : Prop := arenaApartRow.holds Try.pinned (OpenSpec.ofChange arenaApartSpec)

/-- ITS FALSE NEIGHBOUR: 'it returns false'. Refute it at one input. -/
def arenaApartWrong : ChangeSpec := { name := "arenaApart", fn := fun _ => fun
  | [d1, d2, d3] => { results := [.lit (.bool false)], args := [d1, d2, d3] }
  | _ => none }
def ArenaApartWrongFalsely : Prop := arenaApartRow.holds Try.pinned (OpenSpec.ofChange arenaApartWrong)

/- THE SECOND FORM. 'bulk': how many values and letters a reading holds, each counted each time it is reached (what is shared counts as often as it is met; a slice's spare places count too). A statement '..UptoSaid' is the law's where the arguments, and the package variables that the reading takes, are together of bulk at most 1048576: NARROWER than '..Said'. Prove '..Said' where nothing that the law and all that it calls make is longer than what came in: it says more and counts as full. Else prove '..UptoSaid'. A law counts once. -/
mutual
def uptoBulk {H : Type} : DataW H → Nat
  | .lit (.string bytes) => bytes.length + 1
  | .lit _ => 1
  | .nil => 1
  | .ptr d => uptoBulk d + 1
  | .slice elems spare => uptoBulkAll elems + uptoBulkAll spare + 1
  | .agg parts => uptoBulkAll parts + 1
  | .iface _ d => uptoBulk d + 1
  | .map entries => uptoBulkEntries entries + 1
  | .held _ => 1
def uptoBulkAll {H : Type} : List (DataW H) → Nat
  | [] => 0
  | d :: r => uptoBulk d + uptoBulkAll r
def uptoBulkEntries {H : Type} : List (Lit × DataW H) → Nat
  | [] => 0
  | x :: r => uptoBulkEntry x + uptoBulkEntries r
def uptoBulkEntry {H : Type} : Lit × DataW H → Nat
  | (.string bytes, d) => bytes.length + uptoBulk d + 1
  | (_, d) => uptoBulk d + 1
 end
def uptoSmall : (H : Type) → List (DataW H) → Bool := fun _ ds => decide (uptoBulkAll ds ≤ 1048576)
def OpenSpec.upto (s : _root_.Go.ChangeSpec) : _root_.Go.OpenSpec := { _root_.Go.OpenSpec.ofChange s with cond := some uptoSmall }

/-- 'arcadelaw9.ArenaNames', WHERE WHAT IT READS IS OF BULK AT MOST 1048576: true; the input reads as it did. -/
def arenaNamesUptoRow : OpenClaim := { program := "ytmplimmcjdkhlaa", sum := "23f52ad4ff52d7afb0b1cd76d59fa1939836a3809bbca55577d95ffb72a4a3e8", func := "arcade/arcadelaw9.ArenaNames", spec := "arenaNames", apart := false, narrowed := true }
def ArenaNamesUptoSaid : Prop := arenaNamesUptoRow.holds Try.pinned (OpenSpec.upto arenaNamesSpec)

/-- 'arcadelaw9.ArenaNumbers', WHERE WHAT IT READS IS OF BULK AT MOST 1048576: true; the input reads as it did. -/
def arenaNumbersUptoRow : OpenClaim := { program := "ytmplimmcjdkhlaa", sum := "23f52ad4ff52d7afb0b1cd76d59fa1939836a3809bbca55577d95ffb72a4a3e8", func := "arcade/arcadelaw9.ArenaNumbers", spec := "arenaNumbers", inPlace := ["slices.overlaps[int]"], unfollowed := true, recurses := true, apart := false, narrowed := true }
def ArenaNumbersUptoSaid : Prop := arenaNumbersUptoRow.holds Try.pinned (OpenSpec.upto arenaNumbersSpec)

/-- 'arcadelaw9.ArenaSpans', WHERE WHAT IT READS IS OF BULK AT MOST 1048576: true; the input reads as it did. -/
def arenaSpansUptoRow : OpenClaim := { program := "ytmplimmcjdkhlaa", sum := "23f52ad4ff52d7afb0b1cd76d59fa1939836a3809bbca55577d95ffb72a4a3e8", func := "arcade/arcadelaw9.ArenaSpans", spec := "arenaSpans", inPlace := ["slices.overlaps[int]"], unfollowed := true, recurses := true, apart := false, narrowed := true }
def ArenaSpansUptoSaid : Prop := arenaSpansUptoRow.holds Try.pinned (OpenSpec.upto arenaSpansSpec)

/-- 'arcadelaw9.ArenaQuota', WHERE WHAT IT READS IS OF BULK AT MOST 1048576: true; the input reads as it did. -/
def arenaQuotaUptoRow : OpenClaim := { program := "ytmplimmcjdkhlaa", sum := "23f52ad4ff52d7afb0b1cd76d59fa1939836a3809bbca55577d95ffb72a4a3e8", func := "arcade/arcadelaw9.ArenaQuota", spec := "arenaQuota", inPlace := ["slices.overlaps[int]"], unfollowed := true, recurses := true, apart := false, narrowed := true }
def ArenaQuotaUptoSaid : Prop := arenaQuotaUptoRow.holds Try.pinned (OpenSpec.upto arenaQuotaSpec)

/-- 'arcadelaw9.ArenaPicked', WHERE WHAT IT READS IS OF BULK AT MOST 1048576: true; the input reads as it did. -/
def arenaPickedUptoRow : OpenClaim := { program := "ytmplimmcjdkhlaa", sum := "23f52ad4ff52d7afb0b1cd76d59fa1939836a3809bbca55577d95ffb72a4a3e8", func := "arcade/arcadelaw9.ArenaPicked", spec := "arenaPicked", inPlace := ["slices.overlaps[int]"], unfollowed := true, recurses := true, apart := false, narrowed := true }
def ArenaPickedUptoSaid : Prop := arenaPickedUptoRow.holds Try.pinned (OpenSpec.upto arenaPickedSpec)

/-- 'arcadelaw9.ArenaKept', WHERE WHAT IT READS IS OF BULK AT MOST 1048576: true; the input reads as it did. -/
def arenaKeptUptoRow : OpenClaim := { program := "ytmplimmcjdkhlaa", sum := "23f52ad4ff52d7afb0b1cd76d59fa1939836a3809bbca55577d95ffb72a4a3e8", func := "arcade/arcadelaw9.ArenaKept", spec := "arenaKept", inPlace := ["slices.overlaps[int]"], unfollowed := true, recurses := true, apart := false, narrowed := true }
def ArenaKeptUptoSaid : Prop := arenaKeptUptoRow.holds Try.pinned (OpenSpec.upto arenaKeptSpec)

/-- 'arcadelaw9.ArenaSteps', WHERE WHAT IT READS IS OF BULK AT MOST 1048576: true; the input reads as it did. -/
def arenaStepsUptoRow : OpenClaim := { program := "ytmplimmcjdkhlaa", sum := "23f52ad4ff52d7afb0b1cd76d59fa1939836a3809bbca55577d95ffb72a4a3e8", func := "arcade/arcadelaw9.ArenaSteps", spec := "arenaSteps", inPlace := ["slices.overlaps[int]"], unfollowed := true, recurses := true, apart := false, narrowed := true }
def ArenaStepsUptoSaid : Prop := arenaStepsUptoRow.holds Try.pinned (OpenSpec.upto arenaStepsSpec)

/-- 'arcadelaw9.ArenaStrangers', WHERE WHAT IT READS IS OF BULK AT MOST 1048576: true; the input reads as it did. -/
def arenaStrangersUptoRow : OpenClaim := { program := "ytmplimmcjdkhlaa", sum := "23f52ad4ff52d7afb0b1cd76d59fa1939836a3809bbca55577d95ffb72a4a3e8", func := "arcade/arcadelaw9.ArenaStrangers", spec := "arenaStrangers", inPlace := ["slices.overlaps[int]"], unfollowed := true, recurses := true, apart := false, narrowed := true }
def ArenaStrangersUptoSaid : Prop := arenaStrangersUptoRow.holds Try.pinned (OpenSpec.upto arenaStrangersSpec)

/-- 'arcadelaw9.ArenaApart', WHERE WHAT IT READS IS OF BULK AT MOST 1048576: true; the input reads as it did. -/
def arenaApartUptoRow : OpenClaim := { program := "ytmplimmcjdkhlaa", sum := "23f52ad4ff52d7afb0b1cd76d59fa1939836a3809bbca55577d95ffb72a4a3e8", func := "arcade/arcadelaw9.ArenaApart", spec := "arenaApart", inPlace := ["slices.overlaps[int]"], unfollowed := true, recurses := true, apart := false, narrowed := true }
def ArenaApartUptoSaid : Prop := arenaApartUptoRow.holds Try.pinned (OpenSpec.upto arenaApartSpec)

end Rows
end Go.Proofs.Ytmplimmcjdkhlaa
