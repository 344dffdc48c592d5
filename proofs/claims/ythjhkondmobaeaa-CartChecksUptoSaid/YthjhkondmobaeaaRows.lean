/-
  No cell of these rows narrows 'for every input' (looked for: loops, veiled, ifaces, maps, wideKeys, modest, calm, conditions, laid).
  DERIVED. THE GIVEN ROWS OF THIS SEAT. 5 by the template 'for every input the law returns true; each argument reads behind the call as it read before'; 0 by the template 'total and deterministic' (their statements: YthjhkondmobaeaaTotals.lean).
  GIVEN WITH THE SEED: the statements are not yours to turn. If you find one false, say at which input.
  Laid BY PROGRAM, IN A SANDBOX (cutbox-rows.mjs): the forced cells as the released guide's own fill.sh prints them over the translation 7bcdbf29cd676732… (all of the seat's roots in one cut). By AI agents, Wed Nov 11 2026. No macro, syntax, notation, axiom, sorry.
-/
import Derived.Test.YthjhkondmobaeaaChecked
import GoSem.Claim
import GoSem.ClaimJoined
import GoSem.ClaimMapViews
import Derived.JoinedTies
import Derived.KernelRfl
namespace Go.Proofs.Ythjhkondmobaeaa
/- THE CELL 'sum', in the pinned program and in every row, IS THE sha256 OF THE DUMP (.gsa) THAT YthjhkondmobaeaaProg.lean LOADS. Nothing in Lean hashes anything: it is a label: what it is worth is what the hold of that sum in a sandbox is worth. -/
noncomputable def Try.pinned : Pinned := { name := "ythjhkondmobaeaa", sum := "7bcdbf29cd676732dbc2edcf2087a0a60362d33cda8eaff6112ef0505b83a570", checked := Try.checked }
namespace Rows
def none {H : Type} : Left H := { results := [], args := [] }

/-- 'arcadelaw4.CartNames': WHATEVER THE INPUT: true; the input reads as it did. -/
def cartNamesSpec : ChangeSpec := { name := "cartNames", fn := fun _ => fun
  | [] => { results := [.lit (.bool true)], args := [] }
  | _ => none }
def cartNamesRow : OpenClaim := { program := "ythjhkondmobaeaa", sum := "7bcdbf29cd676732dbc2edcf2087a0a60362d33cda8eaff6112ef0505b83a570", func := "arcade/arcadelaw4.CartNames", spec := "cartNames", apart := false }
def CartNamesSaid : Prop := cartNamesRow.holds Try.pinned (OpenSpec.ofChange cartNamesSpec)

/-- ITS FALSE NEIGHBOUR: 'it returns false'. Refute it at one input. -/
def cartNamesWrong : ChangeSpec := { name := "cartNames", fn := fun _ => fun
  | [] => { results := [.lit (.bool false)], args := [] }
  | _ => none }
def CartNamesWrongFalsely : Prop := cartNamesRow.holds Try.pinned (OpenSpec.ofChange cartNamesWrong)

/-- 'arcadelaw4.CartChecks': WHATEVER THE INPUT: true; the input reads as it did. -/
def cartChecksSpec : ChangeSpec := { name := "cartChecks", fn := fun _ => fun
  | [d] => { results := [.lit (.bool true)], args := [d] }
  | _ => none }
def cartChecksRow : OpenClaim := { program := "ythjhkondmobaeaa", sum := "7bcdbf29cd676732dbc2edcf2087a0a60362d33cda8eaff6112ef0505b83a570", func := "arcade/arcadelaw4.CartChecks", spec := "cartChecks", apart := false }
def CartChecksSaid : Prop := cartChecksRow.holds Try.pinned (OpenSpec.ofChange cartChecksSpec)

/-- ITS FALSE NEIGHBOUR: 'it returns false'. Refute it at one input. -/
def cartChecksWrong : ChangeSpec := { name := "cartChecks", fn := fun _ => fun
  | [d] => { results := [.lit (.bool false)], args := [d] }
  | _ => none }
def CartChecksWrongFalsely : Prop := cartChecksRow.holds Try.pinned (OpenSpec.ofChange cartChecksWrong)

/-- 'arcadelaw4.CartFirm': WHATEVER THE INPUT: true; the input reads as it did. -/
def cartFirmSpec : ChangeSpec := { name := "cartFirm", fn := fun _ => fun
  | [d1, d2] => { results := [.lit (.bool true)], args := [d1, d2] }
  | _ => none }
def cartFirmRow : OpenClaim := { program := "ythjhkondmobaeaa", sum := "7bcdbf29cd676732dbc2edcf2087a0a60362d33cda8eaff6112ef0505b83a570", func := "arcade/arcadelaw4.CartFirm", spec := "cartFirm", unfollowed := true, recurses := true, apart := false }
def CartFirmSaid : Prop := cartFirmRow.holds Try.pinned (OpenSpec.ofChange cartFirmSpec)

/-- ITS FALSE NEIGHBOUR: 'it returns false'. Refute it at one input. -/
def cartFirmWrong : ChangeSpec := { name := "cartFirm", fn := fun _ => fun
  | [d1, d2] => { results := [.lit (.bool false)], args := [d1, d2] }
  | _ => none }
def CartFirmWrongFalsely : Prop := cartFirmRow.holds Try.pinned (OpenSpec.ofChange cartFirmWrong)

/-- 'arcadelaw4.CartKept': WHATEVER THE INPUT: true; the input reads as it did. -/
def cartKeptSpec : ChangeSpec := { name := "cartKept", fn := fun _ => fun
  | [d1, d2] => { results := [.lit (.bool true)], args := [d1, d2] }
  | _ => none }
def cartKeptRow : OpenClaim := { program := "ythjhkondmobaeaa", sum := "7bcdbf29cd676732dbc2edcf2087a0a60362d33cda8eaff6112ef0505b83a570", func := "arcade/arcadelaw4.CartKept", spec := "cartKept", unfollowed := true, recurses := true, apart := false }
def CartKeptSaid : Prop := cartKeptRow.holds Try.pinned (OpenSpec.ofChange cartKeptSpec)

/-- ITS FALSE NEIGHBOUR: 'it returns false'. Refute it at one input. -/
def cartKeptWrong : ChangeSpec := { name := "cartKept", fn := fun _ => fun
  | [d1, d2] => { results := [.lit (.bool false)], args := [d1, d2] }
  | _ => none }
def CartKeptWrongFalsely : Prop := cartKeptRow.holds Try.pinned (OpenSpec.ofChange cartKeptWrong)

/-- 'arcadelaw4.CartExact': WHATEVER THE INPUT: true; the input reads as it did. -/
def cartExactSpec : ChangeSpec := { name := "cartExact", fn := fun _ => fun
  | [d1, d2, d3] => { results := [.lit (.bool true)], args := [d1, d2, d3] }
  | _ => none }
def cartExactRow : OpenClaim := { program := "ythjhkondmobaeaa", sum := "7bcdbf29cd676732dbc2edcf2087a0a60362d33cda8eaff6112ef0505b83a570", func := "arcade/arcadelaw4.CartExact", spec := "cartExact", unfollowed := true, recurses := true, apart := false }
def CartExactSaid : Prop := cartExactRow.holds Try.pinned (OpenSpec.ofChange cartExactSpec)

/-- ITS FALSE NEIGHBOUR: 'it returns false'. Refute it at one input. -/
def cartExactWrong : ChangeSpec := { name := "cartExact", fn := fun _ => fun
  | [d1, d2, d3] => { results := [.lit (.bool false)], args := [d1, d2, d3] }
  | _ => none }
def CartExactWrongFalsely : Prop := cartExactRow.holds Try.pinned (OpenSpec.ofChange cartExactWrong)

/- THE SECOND FORM. 'bulk': how many values and letters a reading holds, each counted each time it is reached (what is shared counts as often as it is met; a slice's spare places count too). A statement '..UptoSaid' is the law's where the arguments, and the package variables that the reading takes, are together of bulk at most 1048576: NARROWER than '..Said'. Prove '..Said' where nothing that the law and all that it calls make is longer than what came in: it says more and counts as full. Else prove '..UptoSaid'. A law counts once. -/
mutual
def uptoBulk {H : Type} : DataW H → Nat
  | .lit (.string bytes) => bytes.length + 1
  | .lit _ => 1
  | .nil => 1
  | .ptr d => uptoBulk d + 1
  | .slice elems spare => uptoBulkAll elems + uptoBulkAll spare + 1
  | .agg parts => uptoBulkAll parts + 1
  | .iface _ d => uptoBulk d + 1
  | .map entries => uptoBulkEntries entries + 1
  | .held _ => 1
def uptoBulkAll {H : Type} : List (DataW H) → Nat
  | [] => 0
  | d :: r => uptoBulk d + uptoBulkAll r
def uptoBulkEntries {H : Type} : List (Lit × DataW H) → Nat
  | [] => 0
  | x :: r => uptoBulkEntry x + uptoBulkEntries r
def uptoBulkEntry {H : Type} : Lit × DataW H → Nat
  | (.string bytes, d) => bytes.length + uptoBulk d + 1
  | (_, d) => uptoBulk d + 1
 end
def uptoSmall : (H : Type) → List (DataW H) → Bool := fun _ ds => decide (uptoBulkAll ds ≤ 1048576)
def OpenSpec.upto (s : _root_.Go.ChangeSpec) : _root_.Go.OpenSpec := { _root_.Go.OpenSpec.ofChange s with cond := some uptoSmall }

/-- 'arcadelaw4.CartNames', WHERE WHAT IT READS IS OF BULK AT MOST 1048576: true; the input reads as it did. -/
def cartNamesUptoRow : OpenClaim := { program := "ythjhkondmobaeaa", sum := "7bcdbf29cd676732dbc2edcf2087a0a60362d33cda8eaff6112ef0505b83a570", func := "arcade/arcadelaw4.CartNames", spec := "cartNames", apart := false, narrowed := true }
def CartNamesUptoSaid : Prop := cartNamesUptoRow.holds Try.pinned (OpenSpec.upto cartNamesSpec)

/-- 'arcadelaw4.CartChecks', WHERE WHAT IT READS IS OF BULK AT MOST 1048576: true; the input reads as it did. -/
def cartChecksUptoRow : OpenClaim := { program := "ythjhkondmobaeaa", sum := "7bcdbf29cd676732dbc2edcf2087a0a60362d33cda8eaff6112ef0505b83a570", func := "arcade/arcadelaw4.CartChecks", spec := "cartChecks", apart := false, narrowed := true }
def CartChecksUptoSaid : Prop := cartChecksUptoRow.holds Try.pinned (OpenSpec.upto cartChecksSpec)

/-- 'arcadelaw4.CartFirm', WHERE WHAT IT READS IS OF BULK AT MOST 1048576: true; the input reads as it did. -/
def cartFirmUptoRow : OpenClaim := { program := "ythjhkondmobaeaa", sum := "7bcdbf29cd676732dbc2edcf2087a0a60362d33cda8eaff6112ef0505b83a570", func := "arcade/arcadelaw4.CartFirm", spec := "cartFirm", unfollowed := true, recurses := true, apart := false, narrowed := true }
def CartFirmUptoSaid : Prop := cartFirmUptoRow.holds Try.pinned (OpenSpec.upto cartFirmSpec)

/-- 'arcadelaw4.CartKept', WHERE WHAT IT READS IS OF BULK AT MOST 1048576: true; the input reads as it did. -/
def cartKeptUptoRow : OpenClaim := { program := "ythjhkondmobaeaa", sum := "7bcdbf29cd676732dbc2edcf2087a0a60362d33cda8eaff6112ef0505b83a570", func := "arcade/arcadelaw4.CartKept", spec := "cartKept", unfollowed := true, recurses := true, apart := false, narrowed := true }
def CartKeptUptoSaid : Prop := cartKeptUptoRow.holds Try.pinned (OpenSpec.upto cartKeptSpec)

/-- 'arcadelaw4.CartExact', WHERE WHAT IT READS IS OF BULK AT MOST 1048576: true; the input reads as it did. -/
def cartExactUptoRow : OpenClaim := { program := "ythjhkondmobaeaa", sum := "7bcdbf29cd676732dbc2edcf2087a0a60362d33cda8eaff6112ef0505b83a570", func := "arcade/arcadelaw4.CartExact", spec := "cartExact", unfollowed := true, recurses := true, apart := false, narrowed := true }
def CartExactUptoSaid : Prop := cartExactUptoRow.holds Try.pinned (OpenSpec.upto cartExactSpec)

end Rows
end Go.Proofs.Ythjhkondmobaeaa
