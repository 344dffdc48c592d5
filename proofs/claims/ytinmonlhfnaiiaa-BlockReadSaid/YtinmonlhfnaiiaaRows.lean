/-
  No cell of these rows narrows 'for every input' (looked for: loops, veiled, ifaces, maps, wideKeys, modest, calm, conditions, laid).
  DERIVED. THE GIVEN ROWS OF THIS SEAT. 7 by the template 'for every input the law returns true; each argument reads behind the call as it read before'; 0 by the template 'total and deterministic' (their statements: YtinmonlhfnaiiaaTotals.lean).
  GIVEN WITH THE SEED: the statements are not yours to turn. If you find one false, say at which input.
  Laid BY PROGRAM, IN A SANDBOX (cutbox-rows.mjs): the forced cells as the released guide's own fill.sh prints them over the translation 7a5272d03494d6e3… (all of the seat's roots in one cut). By AI agents, Wed Nov 11 2026. No macro, syntax, notation, axiom, sorry.
-/
import Derived.Test.YtinmonlhfnaiiaaChecked
import GoSem.Claim
import GoSem.ClaimJoined
import GoSem.ClaimMapViews
import Derived.JoinedTies
import Derived.KernelRfl
namespace Go.Proofs.Ytinmonlhfnaiiaa
/- THE CELL 'sum', in the pinned program and in every row, IS THE sha256 OF THE DUMP (.gsa) THAT YtinmonlhfnaiiaaProg.lean LOADS. Nothing in Lean hashes anything: it is a label: what it is worth is what the hold of that sum in a sandbox is worth. -/
noncomputable def Try.pinned : Pinned := { name := "ytinmonlhfnaiiaa", sum := "7a5272d03494d6e363803208f5186bf358582bb0a4b7d6dfe1deef60b1a70051", checked := Try.checked }
namespace Rows
def none {H : Type} : Left H := { results := [], args := [] }

/-- 'arcadelaw10.BlockNames': WHATEVER THE INPUT: true; the input reads as it did. -/
def blockNamesSpec : ChangeSpec := { name := "blockNames", fn := fun _ => fun
  | [] => { results := [.lit (.bool true)], args := [] }
  | _ => none }
def blockNamesRow : OpenClaim := { program := "ytinmonlhfnaiiaa", sum := "7a5272d03494d6e363803208f5186bf358582bb0a4b7d6dfe1deef60b1a70051", func := "arcade/arcadelaw10.BlockNames", spec := "blockNames", apart := false }
def BlockNamesSaid : Prop := blockNamesRow.holds Try.pinned (OpenSpec.ofChange blockNamesSpec)

/-- ITS FALSE NEIGHBOUR: 'it returns false'. Refute it at one input. -/
def blockNamesWrong : ChangeSpec := { name := "blockNames", fn := fun _ => fun
  | [] => { results := [.lit (.bool false)], args := [] }
  | _ => none }
def BlockNamesWrongFalsely : Prop := blockNamesRow.holds Try.pinned (OpenSpec.ofChange blockNamesWrong)

/-- 'arcadelaw10.BlockTorn': WHATEVER THE INPUT: true; the input reads as it did. -/
def blockTornSpec : ChangeSpec := { name := "blockTorn", fn := fun _ => fun
  | [d1, d2, d3, d4] => { results := [.lit (.bool true)], args := [d1, d2, d3, d4] }
  | _ => none }
def blockTornRow : OpenClaim := { program := "ytinmonlhfnaiiaa", sum := "7a5272d03494d6e363803208f5186bf358582bb0a4b7d6dfe1deef60b1a70051", func := "arcade/arcadelaw10.BlockTorn", spec := "blockTorn", apart := false }
def BlockTornSaid : Prop := blockTornRow.holds Try.pinned (OpenSpec.ofChange blockTornSpec)

/-- ITS FALSE NEIGHBOUR: 'it returns false'. Refute it at one input. -/
def blockTornWrong : ChangeSpec := { name := "blockTorn", fn := fun _ => fun
  | [d1, d2, d3, d4] => { results := [.lit (.bool false)], args := [d1, d2, d3, d4] }
  | _ => none }
def BlockTornWrongFalsely : Prop := blockTornRow.holds Try.pinned (OpenSpec.ofChange blockTornWrong)

/-- 'arcadelaw10.BlockRead': WHATEVER THE INPUT: true; the input reads as it did. -/
def blockReadSpec : ChangeSpec := { name := "blockRead", fn := fun _ => fun
  | [d1, d2, d3] => { results := [.lit (.bool true)], args := [d1, d2, d3] }
  | _ => none }
def blockReadRow : OpenClaim := { program := "ytinmonlhfnaiiaa", sum := "7a5272d03494d6e363803208f5186bf358582bb0a4b7d6dfe1deef60b1a70051", func := "arcade/arcadelaw10.BlockRead", spec := "blockRead", unfollowed := true, recurses := true, apart := false }
def BlockReadSaid : Prop := blockReadRow.holds Try.pinned (OpenSpec.ofChange blockReadSpec)

/-- ITS FALSE NEIGHBOUR: 'it returns false'. Refute it at one input. -/
def blockReadWrong : ChangeSpec := { name := "blockRead", fn := fun _ => fun
  | [d1, d2, d3] => { results := [.lit (.bool false)], args := [d1, d2, d3] }
  | _ => none }
def BlockReadWrongFalsely : Prop := blockReadRow.holds Try.pinned (OpenSpec.ofChange blockReadWrong)

/-- 'arcadelaw10.BlockAll': WHATEVER THE INPUT: true; the input reads as it did. -/
def blockAllSpec : ChangeSpec := { name := "blockAll", fn := fun _ => fun
  | [d1, d2, d3] => { results := [.lit (.bool true)], args := [d1, d2, d3] }
  | _ => none }
def blockAllRow : OpenClaim := { program := "ytinmonlhfnaiiaa", sum := "7a5272d03494d6e363803208f5186bf358582bb0a4b7d6dfe1deef60b1a70051", func := "arcade/arcadelaw10.BlockAll", spec := "blockAll", apart := false }
def BlockAllSaid : Prop := blockAllRow.holds Try.pinned (OpenSpec.ofChange blockAllSpec)

/-- ITS FALSE NEIGHBOUR: 'it returns false'. Refute it at one input. -/
def blockAllWrong : ChangeSpec := { name := "blockAll", fn := fun _ => fun
  | [d1, d2, d3] => { results := [.lit (.bool false)], args := [d1, d2, d3] }
  | _ => none }
def BlockAllWrongFalsely : Prop := blockAllRow.holds Try.pinned (OpenSpec.ofChange blockAllWrong)

/-- 'arcadelaw10.BlockFirm': WHATEVER THE INPUT: true; the input reads as it did. -/
def blockFirmSpec : ChangeSpec := { name := "blockFirm", fn := fun _ => fun
  | [d1, d2] => { results := [.lit (.bool true)], args := [d1, d2] }
  | _ => none }
def blockFirmRow : OpenClaim := { program := "ytinmonlhfnaiiaa", sum := "7a5272d03494d6e363803208f5186bf358582bb0a4b7d6dfe1deef60b1a70051", func := "arcade/arcadelaw10.BlockFirm", spec := "blockFirm", unfollowed := true, recurses := true, apart := false }
def BlockFirmSaid : Prop := blockFirmRow.holds Try.pinned (OpenSpec.ofChange blockFirmSpec)

/-- ITS FALSE NEIGHBOUR: 'it returns false'. Refute it at one input. -/
def blockFirmWrong : ChangeSpec := { name := "blockFirm", fn := fun _ => fun
  | [d1, d2] => { results := [.lit (.bool false)], args := [d1, d2] }
  | _ => none }
def BlockFirmWrongFalsely : Prop := blockFirmRow.holds Try.pinned (OpenSpec.ofChange blockFirmWrong)

/-- 'arcadelaw10.BlockSynced': WHATEVER THE INPUT: true; the input reads as it did. -/
def blockSyncedSpec : ChangeSpec := { name := "blockSynced", fn := fun _ => fun
  | [d1, d2, d3, d4] => { results := [.lit (.bool true)], args := [d1, d2, d3, d4] }
  | _ => none }
def blockSyncedRow : OpenClaim := { program := "ytinmonlhfnaiiaa", sum := "7a5272d03494d6e363803208f5186bf358582bb0a4b7d6dfe1deef60b1a70051", func := "arcade/arcadelaw10.BlockSynced", spec := "blockSynced", apart := false }
def BlockSyncedSaid : Prop := blockSyncedRow.holds Try.pinned (OpenSpec.ofChange blockSyncedSpec)

/-- ITS FALSE NEIGHBOUR: 'it returns false'. Refute it at one input. -/
def blockSyncedWrong : ChangeSpec := { name := "blockSynced", fn := fun _ => fun
  | [d1, d2, d3, d4] => { results := [.lit (.bool false)], args := [d1, d2, d3, d4] }
  | _ => none }
def BlockSyncedWrongFalsely : Prop := blockSyncedRow.holds Try.pinned (OpenSpec.ofChange blockSyncedWrong)

/-- 'arcadelaw10.BlockExact': WHATEVER THE INPUT: true; the input reads as it did. -/
def blockExactSpec : ChangeSpec := { name := "blockExact", fn := fun _ => fun
  | [d] => { results := [.lit (.bool true)], args := [d] }
  | _ => none }
def blockExactRow : OpenClaim := { program := "ytinmonlhfnaiiaa", sum := "7a5272d03494d6e363803208f5186bf358582bb0a4b7d6dfe1deef60b1a70051", func := "arcade/arcadelaw10.BlockExact", spec := "blockExact", unfollowed := true, recurses := true, apart := false }
def BlockExactSaid : Prop := blockExactRow.holds Try.pinned (OpenSpec.ofChange blockExactSpec)

/-- ITS FALSE NEIGHBOUR: 'it returns false'. Refute it at one input. -/
def blockExactWrong : ChangeSpec := { name := "blockExact", fn := fun _ => fun
  | [d] => { results := [.lit (.bool false)], args := [d] }
  | _ => none }
def BlockExactWrongFalsely : Prop := blockExactRow.holds Try.pinned (OpenSpec.ofChange blockExactWrong)

/- THE SECOND FORM. 'bulk': how many values and letters a reading holds, each counted each time it is reached (what is shared counts as often as it is met; a slice's spare places count too). A statement '..UptoSaid' is the law's where the arguments, and the package variables that the reading takes, are together of bulk at most 1048576: NARROWER than '..Said'. Prove '..Said' where nothing that the law and all that it calls make is longer than what came in: it says more and counts as full. Else prove '..UptoSaid'. A law counts once. -/
mutual
def uptoBulk {H : Type} : DataW H → Nat
  | .lit (.string bytes) => bytes.length + 1
  | .lit _ => 1
  | .nil => 1
  | .ptr d => uptoBulk d + 1
  | .slice elems spare => uptoBulkAll elems + uptoBulkAll spare + 1
  | .agg parts => uptoBulkAll parts + 1
  | .iface _ d => uptoBulk d + 1
  | .map entries => uptoBulkEntries entries + 1
  | .held _ => 1
def uptoBulkAll {H : Type} : List (DataW H) → Nat
  | [] => 0
  | d :: r => uptoBulk d + uptoBulkAll r
def uptoBulkEntries {H : Type} : List (Lit × DataW H) → Nat
  | [] => 0
  | x :: r => uptoBulkEntry x + uptoBulkEntries r
def uptoBulkEntry {H : Type} : Lit × DataW H → Nat
  | (.string bytes, d) => bytes.length + uptoBulk d + 1
  | (_, d) => uptoBulk d + 1
 end
def uptoSmall : (H : Type) → List (DataW H) → Bool := fun _ ds => decide (uptoBulkAll ds ≤ 1048576)
def OpenSpec.upto (s : _root_.Go.ChangeSpec) : _root_.Go.OpenSpec := { _root_.Go.OpenSpec.ofChange s with cond := some uptoSmall }

/-- 'arcadelaw10.BlockNames', WHERE WHAT IT READS IS OF BULK AT MOST 1048576: true; the input reads as it did. -/
def blockNamesUptoRow : OpenClaim := { program := "ytinmonlhfnaiiaa", sum := "7a5272d03494d6e363803208f5186bf358582bb0a4b7d6dfe1deef60b1a70051", func := "arcade/arcadelaw10.BlockNames", spec := "blockNames", apart := false, narrowed := true }
def BlockNamesUptoSaid : Prop := blockNamesUptoRow.holds Try.pinned (OpenSpec.upto blockNamesSpec)

/-- 'arcadelaw10.BlockTorn', WHERE WHAT IT READS IS OF BULK AT MOST 1048576: true; the input reads as it did. -/
def blockTornUptoRow : OpenClaim := { program := "ytinmonlhfnaiiaa", sum := "7a5272d03494d6e363803208f5186bf358582bb0a4b7d6dfe1deef60b1a70051", func := "arcade/arcadelaw10.BlockTorn", spec := "blockTorn", apart := false, narrowed := true }
def BlockTornUptoSaid : Prop := blockTornUptoRow.holds Try.pinned (OpenSpec.upto blockTornSpec)

/-- 'arcadelaw10.BlockRead', WHERE WHAT IT READS IS OF BULK AT MOST 1048576: true; the input reads as it did. -/
def blockReadUptoRow : OpenClaim := { program := "ytinmonlhfnaiiaa", sum := "7a5272d03494d6e363803208f5186bf358582bb0a4b7d6dfe1deef60b1a70051", func := "arcade/arcadelaw10.BlockRead", spec := "blockRead", unfollowed := true, recurses := true, apart := false, narrowed := true }
def BlockReadUptoSaid : Prop := blockReadUptoRow.holds Try.pinned (OpenSpec.upto blockReadSpec)

/-- 'arcadelaw10.BlockAll', WHERE WHAT IT READS IS OF BULK AT MOST 1048576: true; the input reads as it did. -/
def blockAllUptoRow : OpenClaim := { program := "ytinmonlhfnaiiaa", sum := "7a5272d03494d6e363803208f5186bf358582bb0a4b7d6dfe1deef60b1a70051", func := "arcade/arcadelaw10.BlockAll", spec := "blockAll", apart := false, narrowed := true }
def BlockAllUptoSaid : Prop := blockAllUptoRow.holds Try.pinned (OpenSpec.upto blockAllSpec)

/-- 'arcadelaw10.BlockFirm', WHERE WHAT IT READS IS OF BULK AT MOST 1048576: true; the input reads as it did. -/
def blockFirmUptoRow : OpenClaim := { program := "ytinmonlhfnaiiaa", sum := "7a5272d03494d6e363803208f5186bf358582bb0a4b7d6dfe1deef60b1a70051", func := "arcade/arcadelaw10.BlockFirm", spec := "blockFirm", unfollowed := true, recurses := true, apart := false, narrowed := true }
def BlockFirmUptoSaid : Prop := blockFirmUptoRow.holds Try.pinned (OpenSpec.upto blockFirmSpec)

/-- 'arcadelaw10.BlockSynced', WHERE WHAT IT READS IS OF BULK AT MOST 1048576: true; the input reads as it did. -/
def blockSyncedUptoRow : OpenClaim := { program := "ytinmonlhfnaiiaa", sum := "7a5272d03494d6e363803208f5186bf358582bb0a4b7d6dfe1deef60b1a70051", func := "arcade/arcadelaw10.BlockSynced", spec := "blockSynced", apart := false, narrowed := true }
def BlockSyncedUptoSaid : Prop := blockSyncedUptoRow.holds Try.pinned (OpenSpec.upto blockSyncedSpec)

/-- 'arcadelaw10.BlockExact', WHERE WHAT IT READS IS OF BULK AT MOST 1048576: true; the input reads as it did. -/
def blockExactUptoRow : OpenClaim := { program := "ytinmonlhfnaiiaa", sum := "7a5272d03494d6e363803208f5186bf358582bb0a4b7d6dfe1deef60b1a70051", func := "arcade/arcadelaw10.BlockExact", spec := "blockExact", unfollowed := true, recurses := true, apart := false, narrowed := true }
def BlockExactUptoSaid : Prop := blockExactUptoRow.holds Try.pinned (OpenSpec.upto blockExactSpec)

end Rows
end Go.Proofs.Ytinmonlhfnaiiaa
