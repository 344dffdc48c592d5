/-
  No cell of these rows narrows 'for every input' (looked for: loops, veiled, ifaces, maps, wideKeys, modest, calm, conditions, laid).
  DERIVED. THE GIVEN ROWS OF THIS SEAT. 6 by the template 'for every input the law returns true; each argument reads behind the call as it read before'; 0 by the template 'total and deterministic' (their statements: YtijjficnhpokdaaTotals.lean).
  GIVEN WITH THE SEED: the statements are not yours to turn. If you find one false, say at which input.
  Laid BY PROGRAM, IN A SANDBOX (cutbox-rows.mjs): the forced cells as the released guide's own fill.sh prints them over the translation bbb52f6bd45a10f2… (all of the seat's roots in one cut). By AI agents, Wed Nov 11 2026. No macro, syntax, notation, axiom, sorry.
-/
import Derived.Test.YtijjficnhpokdaaChecked
import GoSem.Claim
import GoSem.ClaimJoined
import GoSem.ClaimMapViews
import Derived.JoinedTies
import Derived.KernelRfl
namespace Go.Proofs.Ytijjficnhpokdaa
/- THE CELL 'sum', in the pinned program and in every row, IS THE sha256 OF THE DUMP (.gsa) THAT YtijjficnhpokdaaProg.lean LOADS. Nothing in Lean hashes anything: it is a label: what it is worth is what the hold of that sum in a sandbox is worth. -/
noncomputable def Try.pinned : Pinned := { name := "ytijjficnhpokdaa", sum := "bbb52f6bd45a10f295b45add60b8aa2f32384b544dedb051121e1c48caac8ed3", checked := Try.checked }
namespace Rows
def none {H : Type} : Left H := { results := [], args := [] }

/-- 'arcadelaw13.SchedNames': WHATEVER THE INPUT: true; the input reads as it did. -/
def schedNamesSpec : ChangeSpec := { name := "schedNames", fn := fun _ => fun
  | [] => { results := [.lit (.bool true)], args := [] }
  | _ => none }
def schedNamesRow : OpenClaim := { program := "ytijjficnhpokdaa", sum := "bbb52f6bd45a10f295b45add60b8aa2f32384b544dedb051121e1c48caac8ed3", func := "arcade/arcadelaw13.SchedNames", spec := "schedNames", apart := false }
def SchedNamesSaid : Prop := schedNamesRow.holds Try.pinned (OpenSpec.ofChange schedNamesSpec)

/-- ITS FALSE NEIGHBOUR: 'it returns false'. Refute it at one input. -/
def schedNamesWrong : ChangeSpec := { name := "schedNames", fn := fun _ => fun
  | [] => { results := [.lit (.bool false)], args := [] }
  | _ => none }
def SchedNamesWrongFalsely : Prop := schedNamesRow.holds Try.pinned (OpenSpec.ofChange schedNamesWrong)

/-- 'arcadelaw13.SchedOnce': WHATEVER THE INPUT: true; the input reads as it did. -/
def schedOnceSpec : ChangeSpec := { name := "schedOnce", fn := fun _ => fun
  | [d1, d2, d3] => { results := [.lit (.bool true)], args := [d1, d2, d3] }
  | _ => none }
def schedOnceRow : OpenClaim := { program := "ytijjficnhpokdaa", sum := "bbb52f6bd45a10f295b45add60b8aa2f32384b544dedb051121e1c48caac8ed3", func := "arcade/arcadelaw13.SchedOnce", spec := "schedOnce", unfollowed := true, recurses := true, apart := false }
def SchedOnceSaid : Prop := schedOnceRow.holds Try.pinned (OpenSpec.ofChange schedOnceSpec)

/-- ITS FALSE NEIGHBOUR: 'it returns false'. Refute it at one input. -/
def schedOnceWrong : ChangeSpec := { name := "schedOnce", fn := fun _ => fun
  | [d1, d2, d3] => { results := [.lit (.bool false)], args := [d1, d2, d3] }
  | _ => none }
def SchedOnceWrongFalsely : Prop := schedOnceRow.holds Try.pinned (OpenSpec.ofChange schedOnceWrong)

/-- 'arcadelaw13.SchedRound': WHATEVER THE INPUT: true; the input reads as it did. -/
def schedRoundSpec : ChangeSpec := { name := "schedRound", fn := fun _ => fun
  | [d1, d2, d3] => { results := [.lit (.bool true)], args := [d1, d2, d3] }
  | _ => none }
def schedRoundRow : OpenClaim := { program := "ytijjficnhpokdaa", sum := "bbb52f6bd45a10f295b45add60b8aa2f32384b544dedb051121e1c48caac8ed3", func := "arcade/arcadelaw13.SchedRound", spec := "schedRound", unfollowed := true, recurses := true, apart := false }
def SchedRoundSaid : Prop := schedRoundRow.holds Try.pinned (OpenSpec.ofChange schedRoundSpec)

/-- ITS FALSE NEIGHBOUR: 'it returns false'. Refute it at one input. -/
def schedRoundWrong : ChangeSpec := { name := "schedRound", fn := fun _ => fun
  | [d1, d2, d3] => { results := [.lit (.bool false)], args := [d1, d2, d3] }
  | _ => none }
def SchedRoundWrongFalsely : Prop := schedRoundRow.holds Try.pinned (OpenSpec.ofChange schedRoundWrong)

/-- 'arcadelaw13.SchedFair': WHATEVER THE INPUT: true; the input reads as it did. -/
def schedFairSpec : ChangeSpec := { name := "schedFair", fn := fun _ => fun
  | [d1, d2, d3, d4] => { results := [.lit (.bool true)], args := [d1, d2, d3, d4] }
  | _ => none }
def schedFairRow : OpenClaim := { program := "ytijjficnhpokdaa", sum := "bbb52f6bd45a10f295b45add60b8aa2f32384b544dedb051121e1c48caac8ed3", func := "arcade/arcadelaw13.SchedFair", spec := "schedFair", unfollowed := true, recurses := true, apart := false }
def SchedFairSaid : Prop := schedFairRow.holds Try.pinned (OpenSpec.ofChange schedFairSpec)

/-- ITS FALSE NEIGHBOUR: 'it returns false'. Refute it at one input. -/
def schedFairWrong : ChangeSpec := { name := "schedFair", fn := fun _ => fun
  | [d1, d2, d3, d4] => { results := [.lit (.bool false)], args := [d1, d2, d3, d4] }
  | _ => none }
def SchedFairWrongFalsely : Prop := schedFairRow.holds Try.pinned (OpenSpec.ofChange schedFairWrong)

/-- 'arcadelaw13.SchedAll': WHATEVER THE INPUT: true; the input reads as it did. -/
def schedAllSpec : ChangeSpec := { name := "schedAll", fn := fun _ => fun
  | [d] => { results := [.lit (.bool true)], args := [d] }
  | _ => none }
def schedAllRow : OpenClaim := { program := "ytijjficnhpokdaa", sum := "bbb52f6bd45a10f295b45add60b8aa2f32384b544dedb051121e1c48caac8ed3", func := "arcade/arcadelaw13.SchedAll", spec := "schedAll", unfollowed := true, recurses := true, apart := false }
def SchedAllSaid : Prop := schedAllRow.holds Try.pinned (OpenSpec.ofChange schedAllSpec)

/-- ITS FALSE NEIGHBOUR: 'it returns false'. Refute it at one input. -/
def schedAllWrong : ChangeSpec := { name := "schedAll", fn := fun _ => fun
  | [d] => { results := [.lit (.bool false)], args := [d] }
  | _ => none }
def SchedAllWrongFalsely : Prop := schedAllRow.holds Try.pinned (OpenSpec.ofChange schedAllWrong)

/-- 'arcadelaw13.SchedKept': WHATEVER THE INPUT: true; the input reads as it did. -/
def schedKeptSpec : ChangeSpec := { name := "schedKept", fn := fun _ => fun
  | [d1, d2] => { results := [.lit (.bool true)], args := [d1, d2] }
  | _ => none }
def schedKeptRow : OpenClaim := { program := "ytijjficnhpokdaa", sum := "bbb52f6bd45a10f295b45add60b8aa2f32384b544dedb051121e1c48caac8ed3", func := "arcade/arcadelaw13.SchedKept", spec := "schedKept", unfollowed := true, recurses := true, apart := false }
def SchedKeptSaid : Prop := schedKeptRow.holds Try.pinned (OpenSpec.ofChange schedKeptSpec)

/-- ITS FALSE NEIGHBOUR: 'it returns false'. Refute it at one input. -/
def schedKeptWrong : ChangeSpec := { name := "schedKept", fn := fun _ => fun
  | [d1, d2] => { results := [.lit (.bool false)], args := [d1, d2] }
  | _ => none }
def SchedKeptWrongFalsely : Prop := schedKeptRow.holds Try.pinned (OpenSpec.ofChange schedKeptWrong)

/- THE SECOND FORM. 'bulk': how many values and letters a reading holds, each counted each time it is reached (what is shared counts as often as it is met; a slice's spare places count too). A statement '..UptoSaid' is the law's where the arguments, and the package variables that the reading takes, are together of bulk at most 1048576: NARROWER than '..Said'. Prove '..Said' where nothing that the law and all that it calls make is longer than what came in: it says more and counts as full. Else prove '..UptoSaid'. A law counts once. -/
mutual
def uptoBulk {H : Type} : DataW H → Nat
  | .lit (.string bytes) => bytes.length + 1
  | .lit _ => 1
  | .nil => 1
  | .ptr d => uptoBulk d + 1
  | .slice elems spare => uptoBulkAll elems + uptoBulkAll spare + 1
  | .agg parts => uptoBulkAll parts + 1
  | .iface _ d => uptoBulk d + 1
  | .map entries => uptoBulkEntries entries + 1
  | .held _ => 1
def uptoBulkAll {H : Type} : List (DataW H) → Nat
  | [] => 0
  | d :: r => uptoBulk d + uptoBulkAll r
def uptoBulkEntries {H : Type} : List (Lit × DataW H) → Nat
  | [] => 0
  | x :: r => uptoBulkEntry x + uptoBulkEntries r
def uptoBulkEntry {H : Type} : Lit × DataW H → Nat
  | (.string bytes, d) => bytes.length + uptoBulk d + 1
  | (_, d) => uptoBulk d + 1
 end
def uptoSmall : (H : Type) → List (DataW H) → Bool := fun _ ds => decide (uptoBulkAll ds ≤ 1048576)
def OpenSpec.upto (s : _root_.Go.ChangeSpec) : _root_.Go.OpenSpec := { _root_.Go.OpenSpec.ofChange s with cond := some uptoSmall }

/-- 'arcadelaw13.SchedNames', WHERE WHAT IT READS IS OF BULK AT MOST 1048576: true; the input reads as it did. -/
def schedNamesUptoRow : OpenClaim := { program := "ytijjficnhpokdaa", sum := "bbb52f6bd45a10f295b45add60b8aa2f32384b544dedb051121e1c48caac8ed3", func := "arcade/arcadelaw13.SchedNames", spec := "schedNames", apart := false, narrowed := true }
def SchedNamesUptoSaid : Prop := schedNamesUptoRow.holds Try.pinned (OpenSpec.upto schedNamesSpec)

/-- 'arcadelaw13.SchedOnce', WHERE WHAT IT READS IS OF BULK AT MOST 1048576: true; the input reads as it did. -/
def schedOnceUptoRow : OpenClaim := { program := "ytijjficnhpokdaa", sum := "bbb52f6bd45a10f295b45add60b8aa2f32384b544dedb051121e1c48caac8ed3", func := "arcade/arcadelaw13.SchedOnce", spec := "schedOnce", unfollowed := true, recurses := true, apart := false, narrowed := true }
def SchedOnceUptoSaid : Prop := schedOnceUptoRow.holds Try.pinned (OpenSpec.upto schedOnceSpec)

/-- 'arcadelaw13.SchedRound', WHERE WHAT IT READS IS OF BULK AT MOST 1048576: true; the input reads as it did. -/
def schedRoundUptoRow : OpenClaim := { program := "ytijjficnhpokdaa", sum := "bbb52f6bd45a10f295b45add60b8aa2f32384b544dedb051121e1c48caac8ed3", func := "arcade/arcadelaw13.SchedRound", spec := "schedRound", unfollowed := true, recurses := true, apart := false, narrowed := true }
def SchedRoundUptoSaid : Prop := schedRoundUptoRow.holds Try.pinned (OpenSpec.upto schedRoundSpec)

/-- 'arcadelaw13.SchedFair', WHERE WHAT IT READS IS OF BULK AT MOST 1048576: true; the input reads as it did. -/
def schedFairUptoRow : OpenClaim := { program := "ytijjficnhpokdaa", sum := "bbb52f6bd45a10f295b45add60b8aa2f32384b544dedb051121e1c48caac8ed3", func := "arcade/arcadelaw13.SchedFair", spec := "schedFair", unfollowed := true, recurses := true, apart := false, narrowed := true }
def SchedFairUptoSaid : Prop := schedFairUptoRow.holds Try.pinned (OpenSpec.upto schedFairSpec)

/-- 'arcadelaw13.SchedAll', WHERE WHAT IT READS IS OF BULK AT MOST 1048576: true; the input reads as it did. -/
def schedAllUptoRow : OpenClaim := { program := "ytijjficnhpokdaa", sum := "bbb52f6bd45a10f295b45add60b8aa2f32384b544dedb051121e1c48caac8ed3", func := "arcade/arcadelaw13.SchedAll", spec := "schedAll", unfollowed := true, recurses := true, apart := false, narrowed := true }
def SchedAllUptoSaid : Prop := schedAllUptoRow.holds Try.pinned (OpenSpec.upto schedAllSpec)

/-- 'arcadelaw13.SchedKept', WHERE WHAT IT READS IS OF BULK AT MOST 1048576: true; the input reads as it did. -/
def schedKeptUptoRow : OpenClaim := { program := "ytijjficnhpokdaa", sum := "bbb52f6bd45a10f295b45add60b8aa2f32384b544dedb051121e1c48caac8ed3", func := "arcade/arcadelaw13.SchedKept", spec := "schedKept", unfollowed := true, recurses := true, apart := false, narrowed := true }
def SchedKeptUptoSaid : Prop := schedKeptUptoRow.holds Try.pinned (OpenSpec.upto schedKeptSpec)

end Rows
end Go.Proofs.Ytijjficnhpokdaa
