/-
  No cell of these rows narrows 'for every input' (looked for: loops, veiled, ifaces, maps, wideKeys, modest, calm, conditions, laid).
  DERIVED. THE GIVEN ROWS OF THIS SEAT. 17 by the template 'for every input the law returns true; each argument reads behind the call as it read before'; 0 by the template 'total and deterministic' (their statements: YtkfclamiendamaaTotals.lean).
  GIVEN WITH THE SEED: the statements are not yours to turn. If you find one false, say at which input.
  Laid BY PROGRAM, IN A SANDBOX (cutbox-rows.mjs): the forced cells as the released guide's own fill.sh prints them over the translation 3db90b1e06483b5b… (all of the seat's roots in one cut). By AI agents, Wed Nov 11 2026. No macro, syntax, notation, axiom, sorry.
-/
import Derived.Test.YtkfclamiendamaaChecked
import GoSem.Claim
import GoSem.ClaimJoined
import GoSem.ClaimMapViews
import Derived.JoinedTies
import Derived.KernelRfl
namespace Go.Proofs.Ytkfclamiendamaa
/- THE CELL 'sum', in the pinned program and in every row, IS THE sha256 OF THE DUMP (.gsa) THAT YtkfclamiendamaaProg.lean LOADS. Nothing in Lean hashes anything: it is a label: what it is worth is what the hold of that sum in a sandbox is worth. -/
noncomputable def Try.pinned : Pinned := { name := "ytkfclamiendamaa", sum := "3db90b1e06483b5b3332ff839185748e708b98d16542674b7bfff09ba8ba2c74", checked := Try.checked }
namespace Rows
def none {H : Type} : Left H := { results := [], args := [] }

/-- 'arcadelaw6.PpuNames': WHATEVER THE INPUT: true; the input reads as it did. -/
def ppuNamesSpec : ChangeSpec := { name := "ppuNames", fn := fun _ => fun
  | [] => { results := [.lit (.bool true)], args := [] }
  | _ => none }
def ppuNamesRow : OpenClaim := { program := "ytkfclamiendamaa", sum := "3db90b1e06483b5b3332ff839185748e708b98d16542674b7bfff09ba8ba2c74", func := "arcade/arcadelaw6.PpuNames", spec := "ppuNames", apart := false }
def PpuNamesSaid : Prop := ppuNamesRow.holds Try.pinned (OpenSpec.ofChange ppuNamesSpec)

/-- ITS FALSE NEIGHBOUR: 'it returns false'. Refute it at one input. -/
def ppuNamesWrong : ChangeSpec := { name := "ppuNames", fn := fun _ => fun
  | [] => { results := [.lit (.bool false)], args := [] }
  | _ => none }
def PpuNamesWrongFalsely : Prop := ppuNamesRow.holds Try.pinned (OpenSpec.ofChange ppuNamesWrong)

/-- 'arcadelaw6.PpuMemory': WHATEVER THE INPUT: true; the input reads as it did. -/
def ppuMemorySpec : ChangeSpec := { name := "ppuMemory", fn := fun _ => fun
  | [d1, d2, d3] => { results := [.lit (.bool true)], args := [d1, d2, d3] }
  | _ => none }
def ppuMemoryRow : OpenClaim := { program := "ytkfclamiendamaa", sum := "3db90b1e06483b5b3332ff839185748e708b98d16542674b7bfff09ba8ba2c74", func := "arcade/arcadelaw6.PpuMemory", spec := "ppuMemory", apart := false }
def PpuMemorySaid : Prop := ppuMemoryRow.holds Try.pinned (OpenSpec.ofChange ppuMemorySpec)

/-- ITS FALSE NEIGHBOUR: 'it returns false'. Refute it at one input. -/
def ppuMemoryWrong : ChangeSpec := { name := "ppuMemory", fn := fun _ => fun
  | [d1, d2, d3] => { results := [.lit (.bool false)], args := [d1, d2, d3] }
  | _ => none }
def PpuMemoryWrongFalsely : Prop := ppuMemoryRow.holds Try.pinned (OpenSpec.ofChange ppuMemoryWrong)

/-- 'arcadelaw6.PpuFrames': WHATEVER THE INPUT: true; the input reads as it did. -/
def ppuFramesSpec : ChangeSpec := { name := "ppuFrames", fn := fun _ => fun
  | [d] => { results := [.lit (.bool true)], args := [d] }
  | _ => none }
def ppuFramesRow : OpenClaim := { program := "ytkfclamiendamaa", sum := "3db90b1e06483b5b3332ff839185748e708b98d16542674b7bfff09ba8ba2c74", func := "arcade/arcadelaw6.PpuFrames", spec := "ppuFrames", apart := false }
def PpuFramesSaid : Prop := ppuFramesRow.holds Try.pinned (OpenSpec.ofChange ppuFramesSpec)

/-- ITS FALSE NEIGHBOUR: 'it returns false'. Refute it at one input. -/
def ppuFramesWrong : ChangeSpec := { name := "ppuFrames", fn := fun _ => fun
  | [d] => { results := [.lit (.bool false)], args := [d] }
  | _ => none }
def PpuFramesWrongFalsely : Prop := ppuFramesRow.holds Try.pinned (OpenSpec.ofChange ppuFramesWrong)

/-- 'arcadelaw6.PpuScrolls': WHATEVER THE INPUT: true; the input reads as it did. -/
def ppuScrollsSpec : ChangeSpec := { name := "ppuScrolls", fn := fun _ => fun
  | [d1, d2, d3, d4, d5] => { results := [.lit (.bool true)], args := [d1, d2, d3, d4, d5] }
  | _ => none }
def ppuScrollsRow : OpenClaim := { program := "ytkfclamiendamaa", sum := "3db90b1e06483b5b3332ff839185748e708b98d16542674b7bfff09ba8ba2c74", func := "arcade/arcadelaw6.PpuScrolls", spec := "ppuScrolls", apart := false }
def PpuScrollsSaid : Prop := ppuScrollsRow.holds Try.pinned (OpenSpec.ofChange ppuScrollsSpec)

/-- ITS FALSE NEIGHBOUR: 'it returns false'. Refute it at one input. -/
def ppuScrollsWrong : ChangeSpec := { name := "ppuScrolls", fn := fun _ => fun
  | [d1, d2, d3, d4, d5] => { results := [.lit (.bool false)], args := [d1, d2, d3, d4, d5] }
  | _ => none }
def PpuScrollsWrongFalsely : Prop := ppuScrollsRow.holds Try.pinned (OpenSpec.ofChange ppuScrollsWrong)

/-- 'arcadelaw6.PpuColours': WHATEVER THE INPUT: true; the input reads as it did. -/
def ppuColoursSpec : ChangeSpec := { name := "ppuColours", fn := fun _ => fun
  | [d1, d2] => { results := [.lit (.bool true)], args := [d1, d2] }
  | _ => none }
def ppuColoursRow : OpenClaim := { program := "ytkfclamiendamaa", sum := "3db90b1e06483b5b3332ff839185748e708b98d16542674b7bfff09ba8ba2c74", func := "arcade/arcadelaw6.PpuColours", spec := "ppuColours", apart := false }
def PpuColoursSaid : Prop := ppuColoursRow.holds Try.pinned (OpenSpec.ofChange ppuColoursSpec)

/-- ITS FALSE NEIGHBOUR: 'it returns false'. Refute it at one input. -/
def ppuColoursWrong : ChangeSpec := { name := "ppuColours", fn := fun _ => fun
  | [d1, d2] => { results := [.lit (.bool false)], args := [d1, d2] }
  | _ => none }
def PpuColoursWrongFalsely : Prop := ppuColoursRow.holds Try.pinned (OpenSpec.ofChange ppuColoursWrong)

/-- 'arcadelaw6.PpuWindow': WHATEVER THE INPUT: true; the input reads as it did. -/
def ppuWindowSpec : ChangeSpec := { name := "ppuWindow", fn := fun _ => fun
  | [d1, d2, d3, d4, d5] => { results := [.lit (.bool true)], args := [d1, d2, d3, d4, d5] }
  | _ => none }
def ppuWindowRow : OpenClaim := { program := "ytkfclamiendamaa", sum := "3db90b1e06483b5b3332ff839185748e708b98d16542674b7bfff09ba8ba2c74", func := "arcade/arcadelaw6.PpuWindow", spec := "ppuWindow", apart := false }
def PpuWindowSaid : Prop := ppuWindowRow.holds Try.pinned (OpenSpec.ofChange ppuWindowSpec)

/-- ITS FALSE NEIGHBOUR: 'it returns false'. Refute it at one input. -/
def ppuWindowWrong : ChangeSpec := { name := "ppuWindow", fn := fun _ => fun
  | [d1, d2, d3, d4, d5] => { results := [.lit (.bool false)], args := [d1, d2, d3, d4, d5] }
  | _ => none }
def PpuWindowWrongFalsely : Prop := ppuWindowRow.holds Try.pinned (OpenSpec.ofChange ppuWindowWrong)

/-- 'arcadelaw6.PpuSprites': WHATEVER THE INPUT: true; the input reads as it did. -/
def ppuSpritesSpec : ChangeSpec := { name := "ppuSprites", fn := fun _ => fun
  | [d1, d2, d3, d4] => { results := [.lit (.bool true)], args := [d1, d2, d3, d4] }
  | _ => none }
def ppuSpritesRow : OpenClaim := { program := "ytkfclamiendamaa", sum := "3db90b1e06483b5b3332ff839185748e708b98d16542674b7bfff09ba8ba2c74", func := "arcade/arcadelaw6.PpuSprites", spec := "ppuSprites", apart := false }
def PpuSpritesSaid : Prop := ppuSpritesRow.holds Try.pinned (OpenSpec.ofChange ppuSpritesSpec)

/-- ITS FALSE NEIGHBOUR: 'it returns false'. Refute it at one input. -/
def ppuSpritesWrong : ChangeSpec := { name := "ppuSprites", fn := fun _ => fun
  | [d1, d2, d3, d4] => { results := [.lit (.bool false)], args := [d1, d2, d3, d4] }
  | _ => none }
def PpuSpritesWrongFalsely : Prop := ppuSpritesRow.holds Try.pinned (OpenSpec.ofChange ppuSpritesWrong)

/-- 'arcadelaw6.PpuAbove': WHATEVER THE INPUT: true; the input reads as it did. -/
def ppuAboveSpec : ChangeSpec := { name := "ppuAbove", fn := fun _ => fun
  | [d1, d2, d3, d4, d5] => { results := [.lit (.bool true)], args := [d1, d2, d3, d4, d5] }
  | _ => none }
def ppuAboveRow : OpenClaim := { program := "ytkfclamiendamaa", sum := "3db90b1e06483b5b3332ff839185748e708b98d16542674b7bfff09ba8ba2c74", func := "arcade/arcadelaw6.PpuAbove", spec := "ppuAbove", apart := false }
def PpuAboveSaid : Prop := ppuAboveRow.holds Try.pinned (OpenSpec.ofChange ppuAboveSpec)

/-- ITS FALSE NEIGHBOUR: 'it returns false'. Refute it at one input. -/
def ppuAboveWrong : ChangeSpec := { name := "ppuAbove", fn := fun _ => fun
  | [d1, d2, d3, d4, d5] => { results := [.lit (.bool false)], args := [d1, d2, d3, d4, d5] }
  | _ => none }
def PpuAboveWrongFalsely : Prop := ppuAboveRow.holds Try.pinned (OpenSpec.ofChange ppuAboveWrong)

/-- 'arcadelaw6.PpuTen': WHATEVER THE INPUT: true; the input reads as it did. -/
def ppuTenSpec : ChangeSpec := { name := "ppuTen", fn := fun _ => fun
  | [d1, d2, d3, d4] => { results := [.lit (.bool true)], args := [d1, d2, d3, d4] }
  | _ => none }
def ppuTenRow : OpenClaim := { program := "ytkfclamiendamaa", sum := "3db90b1e06483b5b3332ff839185748e708b98d16542674b7bfff09ba8ba2c74", func := "arcade/arcadelaw6.PpuTen", spec := "ppuTen", apart := false }
def PpuTenSaid : Prop := ppuTenRow.holds Try.pinned (OpenSpec.ofChange ppuTenSpec)

/-- ITS FALSE NEIGHBOUR: 'it returns false'. Refute it at one input. -/
def ppuTenWrong : ChangeSpec := { name := "ppuTen", fn := fun _ => fun
  | [d1, d2, d3, d4] => { results := [.lit (.bool false)], args := [d1, d2, d3, d4] }
  | _ => none }
def PpuTenWrongFalsely : Prop := ppuTenRow.holds Try.pinned (OpenSpec.ofChange ppuTenWrong)

/-- 'arcadelaw6.PpuPure': WHATEVER THE INPUT: true; the input reads as it did. -/
def ppuPureSpec : ChangeSpec := { name := "ppuPure", fn := fun _ => fun
  | [d1, d2, d3] => { results := [.lit (.bool true)], args := [d1, d2, d3] }
  | _ => none }
def ppuPureRow : OpenClaim := { program := "ytkfclamiendamaa", sum := "3db90b1e06483b5b3332ff839185748e708b98d16542674b7bfff09ba8ba2c74", func := "arcade/arcadelaw6.PpuPure", spec := "ppuPure", apart := false }
def PpuPureSaid : Prop := ppuPureRow.holds Try.pinned (OpenSpec.ofChange ppuPureSpec)

/-- ITS FALSE NEIGHBOUR: 'it returns false'. Refute it at one input. -/
def ppuPureWrong : ChangeSpec := { name := "ppuPure", fn := fun _ => fun
  | [d1, d2, d3] => { results := [.lit (.bool false)], args := [d1, d2, d3] }
  | _ => none }
def PpuPureWrongFalsely : Prop := ppuPureRow.holds Try.pinned (OpenSpec.ofChange ppuPureWrong)

/-- 'arcadelaw6.PpuAsks': WHATEVER THE INPUT: true; the input reads as it did. -/
def ppuAsksSpec : ChangeSpec := { name := "ppuAsks", fn := fun _ => fun
  | [d1, d2, d3] => { results := [.lit (.bool true)], args := [d1, d2, d3] }
  | _ => none }
def ppuAsksRow : OpenClaim := { program := "ytkfclamiendamaa", sum := "3db90b1e06483b5b3332ff839185748e708b98d16542674b7bfff09ba8ba2c74", func := "arcade/arcadelaw6.PpuAsks", spec := "ppuAsks", apart := false }
def PpuAsksSaid : Prop := ppuAsksRow.holds Try.pinned (OpenSpec.ofChange ppuAsksSpec)

/-- ITS FALSE NEIGHBOUR: 'it returns false'. Refute it at one input. -/
def ppuAsksWrong : ChangeSpec := { name := "ppuAsks", fn := fun _ => fun
  | [d1, d2, d3] => { results := [.lit (.bool false)], args := [d1, d2, d3] }
  | _ => none }
def PpuAsksWrongFalsely : Prop := ppuAsksRow.holds Try.pinned (OpenSpec.ofChange ppuAsksWrong)

/-- 'arcadelaw6.PpuTimes': WHATEVER THE INPUT: true; the input reads as it did. -/
def ppuTimesSpec : ChangeSpec := { name := "ppuTimes", fn := fun _ => fun
  | [d1, d2] => { results := [.lit (.bool true)], args := [d1, d2] }
  | _ => none }
def ppuTimesRow : OpenClaim := { program := "ytkfclamiendamaa", sum := "3db90b1e06483b5b3332ff839185748e708b98d16542674b7bfff09ba8ba2c74", func := "arcade/arcadelaw6.PpuTimes", spec := "ppuTimes", apart := false }
def PpuTimesSaid : Prop := ppuTimesRow.holds Try.pinned (OpenSpec.ofChange ppuTimesSpec)

/-- ITS FALSE NEIGHBOUR: 'it returns false'. Refute it at one input. -/
def ppuTimesWrong : ChangeSpec := { name := "ppuTimes", fn := fun _ => fun
  | [d1, d2] => { results := [.lit (.bool false)], args := [d1, d2] }
  | _ => none }
def PpuTimesWrongFalsely : Prop := ppuTimesRow.holds Try.pinned (OpenSpec.ofChange ppuTimesWrong)

/-- 'arcadelaw6.PpuOff': WHATEVER THE INPUT: true; the input reads as it did. -/
def ppuOffSpec : ChangeSpec := { name := "ppuOff", fn := fun _ => fun
  | [d1, d2, d3] => { results := [.lit (.bool true)], args := [d1, d2, d3] }
  | _ => none }
def ppuOffRow : OpenClaim := { program := "ytkfclamiendamaa", sum := "3db90b1e06483b5b3332ff839185748e708b98d16542674b7bfff09ba8ba2c74", func := "arcade/arcadelaw6.PpuOff", spec := "ppuOff", apart := false }
def PpuOffSaid : Prop := ppuOffRow.holds Try.pinned (OpenSpec.ofChange ppuOffSpec)

/-- ITS FALSE NEIGHBOUR: 'it returns false'. Refute it at one input. -/
def ppuOffWrong : ChangeSpec := { name := "ppuOff", fn := fun _ => fun
  | [d1, d2, d3] => { results := [.lit (.bool false)], args := [d1, d2, d3] }
  | _ => none }
def PpuOffWrongFalsely : Prop := ppuOffRow.holds Try.pinned (OpenSpec.ofChange ppuOffWrong)

/-- 'arcadelaw6.PpuLocked': WHATEVER THE INPUT: true; the input reads as it did. -/
def ppuLockedSpec : ChangeSpec := { name := "ppuLocked", fn := fun _ => fun
  | [d1, d2, d3] => { results := [.lit (.bool true)], args := [d1, d2, d3] }
  | _ => none }
def ppuLockedRow : OpenClaim := { program := "ytkfclamiendamaa", sum := "3db90b1e06483b5b3332ff839185748e708b98d16542674b7bfff09ba8ba2c74", func := "arcade/arcadelaw6.PpuLocked", spec := "ppuLocked", apart := false }
def PpuLockedSaid : Prop := ppuLockedRow.holds Try.pinned (OpenSpec.ofChange ppuLockedSpec)

/-- ITS FALSE NEIGHBOUR: 'it returns false'. Refute it at one input. -/
def ppuLockedWrong : ChangeSpec := { name := "ppuLocked", fn := fun _ => fun
  | [d1, d2, d3] => { results := [.lit (.bool false)], args := [d1, d2, d3] }
  | _ => none }
def PpuLockedWrongFalsely : Prop := ppuLockedRow.holds Try.pinned (OpenSpec.ofChange ppuLockedWrong)

/-- 'arcadelaw6.PpuCut': WHATEVER THE INPUT: true; the input reads as it did. -/
def ppuCutSpec : ChangeSpec := { name := "ppuCut", fn := fun _ => fun
  | [d1, d2, d3] => { results := [.lit (.bool true)], args := [d1, d2, d3] }
  | _ => none }
def ppuCutRow : OpenClaim := { program := "ytkfclamiendamaa", sum := "3db90b1e06483b5b3332ff839185748e708b98d16542674b7bfff09ba8ba2c74", func := "arcade/arcadelaw6.PpuCut", spec := "ppuCut", unfollowed := true, recurses := true, apart := false }
def PpuCutSaid : Prop := ppuCutRow.holds Try.pinned (OpenSpec.ofChange ppuCutSpec)

/-- ITS FALSE NEIGHBOUR: 'it returns false'. Refute it at one input. -/
def ppuCutWrong : ChangeSpec := { name := "ppuCut", fn := fun _ => fun
  | [d1, d2, d3] => { results := [.lit (.bool false)], args := [d1, d2, d3] }
  | _ => none }
def PpuCutWrongFalsely : Prop := ppuCutRow.holds Try.pinned (OpenSpec.ofChange ppuCutWrong)

/-- 'arcadelaw6.PpuSteps': WHATEVER THE INPUT: true; the input reads as it did. -/
def ppuStepsSpec : ChangeSpec := { name := "ppuSteps", fn := fun _ => fun
  | [d] => { results := [.lit (.bool true)], args := [d] }
  | _ => none }
def ppuStepsRow : OpenClaim := { program := "ytkfclamiendamaa", sum := "3db90b1e06483b5b3332ff839185748e708b98d16542674b7bfff09ba8ba2c74", func := "arcade/arcadelaw6.PpuSteps", spec := "ppuSteps", unfollowed := true, recurses := true, apart := false }
def PpuStepsSaid : Prop := ppuStepsRow.holds Try.pinned (OpenSpec.ofChange ppuStepsSpec)

/-- ITS FALSE NEIGHBOUR: 'it returns false'. Refute it at one input. -/
def ppuStepsWrong : ChangeSpec := { name := "ppuSteps", fn := fun _ => fun
  | [d] => { results := [.lit (.bool false)], args := [d] }
  | _ => none }
def PpuStepsWrongFalsely : Prop := ppuStepsRow.holds Try.pinned (OpenSpec.ofChange ppuStepsWrong)

/-- 'arcadelaw6.PpuStates': WHATEVER THE INPUT: true; the input reads as it did. -/
def ppuStatesSpec : ChangeSpec := { name := "ppuStates", fn := fun _ => fun
  | [d] => { results := [.lit (.bool true)], args := [d] }
  | _ => none }
def ppuStatesRow : OpenClaim := { program := "ytkfclamiendamaa", sum := "3db90b1e06483b5b3332ff839185748e708b98d16542674b7bfff09ba8ba2c74", func := "arcade/arcadelaw6.PpuStates", spec := "ppuStates", unfollowed := true, recurses := true, apart := false }
def PpuStatesSaid : Prop := ppuStatesRow.holds Try.pinned (OpenSpec.ofChange ppuStatesSpec)

/-- ITS FALSE NEIGHBOUR: 'it returns false'. Refute it at one input. -/
def ppuStatesWrong : ChangeSpec := { name := "ppuStates", fn := fun _ => fun
  | [d] => { results := [.lit (.bool false)], args := [d] }
  | _ => none }
def PpuStatesWrongFalsely : Prop := ppuStatesRow.holds Try.pinned (OpenSpec.ofChange ppuStatesWrong)

/- THE SECOND FORM. 'bulk': how many values and letters a reading holds, each counted each time it is reached (what is shared counts as often as it is met; a slice's spare places count too). A statement '..UptoSaid' is the law's where the arguments, and the package variables that the reading takes, are together of bulk at most 1048576: NARROWER than '..Said'. Prove '..Said' where nothing that the law and all that it calls make is longer than what came in: it says more and counts as full. Else prove '..UptoSaid'. A law counts once. -/
mutual
def uptoBulk {H : Type} : DataW H → Nat
  | .lit (.string bytes) => bytes.length + 1
  | .lit _ => 1
  | .nil => 1
  | .ptr d => uptoBulk d + 1
  | .slice elems spare => uptoBulkAll elems + uptoBulkAll spare + 1
  | .agg parts => uptoBulkAll parts + 1
  | .iface _ d => uptoBulk d + 1
  | .map entries => uptoBulkEntries entries + 1
  | .held _ => 1
def uptoBulkAll {H : Type} : List (DataW H) → Nat
  | [] => 0
  | d :: r => uptoBulk d + uptoBulkAll r
def uptoBulkEntries {H : Type} : List (Lit × DataW H) → Nat
  | [] => 0
  | x :: r => uptoBulkEntry x + uptoBulkEntries r
def uptoBulkEntry {H : Type} : Lit × DataW H → Nat
  | (.string bytes, d) => bytes.length + uptoBulk d + 1
  | (_, d) => uptoBulk d + 1
 end
def uptoSmall : (H : Type) → List (DataW H) → Bool := fun _ ds => decide (uptoBulkAll ds ≤ 1048576)
def OpenSpec.upto (s : _root_.Go.ChangeSpec) : _root_.Go.OpenSpec := { _root_.Go.OpenSpec.ofChange s with cond := some uptoSmall }

/-- 'arcadelaw6.PpuNames', WHERE WHAT IT READS IS OF BULK AT MOST 1048576: true; the input reads as it did. -/
def ppuNamesUptoRow : OpenClaim := { program := "ytkfclamiendamaa", sum := "3db90b1e06483b5b3332ff839185748e708b98d16542674b7bfff09ba8ba2c74", func := "arcade/arcadelaw6.PpuNames", spec := "ppuNames", apart := false, narrowed := true }
def PpuNamesUptoSaid : Prop := ppuNamesUptoRow.holds Try.pinned (OpenSpec.upto ppuNamesSpec)

/-- 'arcadelaw6.PpuMemory', WHERE WHAT IT READS IS OF BULK AT MOST 1048576: true; the input reads as it did. -/
def ppuMemoryUptoRow : OpenClaim := { program := "ytkfclamiendamaa", sum := "3db90b1e06483b5b3332ff839185748e708b98d16542674b7bfff09ba8ba2c74", func := "arcade/arcadelaw6.PpuMemory", spec := "ppuMemory", apart := false, narrowed := true }
def PpuMemoryUptoSaid : Prop := ppuMemoryUptoRow.holds Try.pinned (OpenSpec.upto ppuMemorySpec)

/-- 'arcadelaw6.PpuFrames', WHERE WHAT IT READS IS OF BULK AT MOST 1048576: true; the input reads as it did. -/
def ppuFramesUptoRow : OpenClaim := { program := "ytkfclamiendamaa", sum := "3db90b1e06483b5b3332ff839185748e708b98d16542674b7bfff09ba8ba2c74", func := "arcade/arcadelaw6.PpuFrames", spec := "ppuFrames", apart := false, narrowed := true }
def PpuFramesUptoSaid : Prop := ppuFramesUptoRow.holds Try.pinned (OpenSpec.upto ppuFramesSpec)

/-- 'arcadelaw6.PpuScrolls', WHERE WHAT IT READS IS OF BULK AT MOST 1048576: true; the input reads as it did. -/
def ppuScrollsUptoRow : OpenClaim := { program := "ytkfclamiendamaa", sum := "3db90b1e06483b5b3332ff839185748e708b98d16542674b7bfff09ba8ba2c74", func := "arcade/arcadelaw6.PpuScrolls", spec := "ppuScrolls", apart := false, narrowed := true }
def PpuScrollsUptoSaid : Prop := ppuScrollsUptoRow.holds Try.pinned (OpenSpec.upto ppuScrollsSpec)

/-- 'arcadelaw6.PpuColours', WHERE WHAT IT READS IS OF BULK AT MOST 1048576: true; the input reads as it did. -/
def ppuColoursUptoRow : OpenClaim := { program := "ytkfclamiendamaa", sum := "3db90b1e06483b5b3332ff839185748e708b98d16542674b7bfff09ba8ba2c74", func := "arcade/arcadelaw6.PpuColours", spec := "ppuColours", apart := false, narrowed := true }
def PpuColoursUptoSaid : Prop := ppuColoursUptoRow.holds Try.pinned (OpenSpec.upto ppuColoursSpec)

/-- 'arcadelaw6.PpuWindow', WHERE WHAT IT READS IS OF BULK AT MOST 1048576: true; the input reads as it did. -/
def ppuWindowUptoRow : OpenClaim := { program := "ytkfclamiendamaa", sum := "3db90b1e06483b5b3332ff839185748e708b98d16542674b7bfff09ba8ba2c74", func := "arcade/arcadelaw6.PpuWindow", spec := "ppuWindow", apart := false, narrowed := true }
def PpuWindowUptoSaid : Prop := ppuWindowUptoRow.holds Try.pinned (OpenSpec.upto ppuWindowSpec)

/-- 'arcadelaw6.PpuSprites', WHERE WHAT IT READS IS OF BULK AT MOST 1048576: true; the input reads as it did. -/
def ppuSpritesUptoRow : OpenClaim := { program := "ytkfclamiendamaa", sum := "3db90b1e06483b5b3332ff839185748e708b98d16542674b7bfff09ba8ba2c74", func := "arcade/arcadelaw6.PpuSprites", spec := "ppuSprites", apart := false, narrowed := true }
def PpuSpritesUptoSaid : Prop := ppuSpritesUptoRow.holds Try.pinned (OpenSpec.upto ppuSpritesSpec)

/-- 'arcadelaw6.PpuAbove', WHERE WHAT IT READS IS OF BULK AT MOST 1048576: true; the input reads as it did. -/
def ppuAboveUptoRow : OpenClaim := { program := "ytkfclamiendamaa", sum := "3db90b1e06483b5b3332ff839185748e708b98d16542674b7bfff09ba8ba2c74", func := "arcade/arcadelaw6.PpuAbove", spec := "ppuAbove", apart := false, narrowed := true }
def PpuAboveUptoSaid : Prop := ppuAboveUptoRow.holds Try.pinned (OpenSpec.upto ppuAboveSpec)

/-- 'arcadelaw6.PpuTen', WHERE WHAT IT READS IS OF BULK AT MOST 1048576: true; the input reads as it did. -/
def ppuTenUptoRow : OpenClaim := { program := "ytkfclamiendamaa", sum := "3db90b1e06483b5b3332ff839185748e708b98d16542674b7bfff09ba8ba2c74", func := "arcade/arcadelaw6.PpuTen", spec := "ppuTen", apart := false, narrowed := true }
def PpuTenUptoSaid : Prop := ppuTenUptoRow.holds Try.pinned (OpenSpec.upto ppuTenSpec)

/-- 'arcadelaw6.PpuPure', WHERE WHAT IT READS IS OF BULK AT MOST 1048576: true; the input reads as it did. -/
def ppuPureUptoRow : OpenClaim := { program := "ytkfclamiendamaa", sum := "3db90b1e06483b5b3332ff839185748e708b98d16542674b7bfff09ba8ba2c74", func := "arcade/arcadelaw6.PpuPure", spec := "ppuPure", apart := false, narrowed := true }
def PpuPureUptoSaid : Prop := ppuPureUptoRow.holds Try.pinned (OpenSpec.upto ppuPureSpec)

/-- 'arcadelaw6.PpuAsks', WHERE WHAT IT READS IS OF BULK AT MOST 1048576: true; the input reads as it did. -/
def ppuAsksUptoRow : OpenClaim := { program := "ytkfclamiendamaa", sum := "3db90b1e06483b5b3332ff839185748e708b98d16542674b7bfff09ba8ba2c74", func := "arcade/arcadelaw6.PpuAsks", spec := "ppuAsks", apart := false, narrowed := true }
def PpuAsksUptoSaid : Prop := ppuAsksUptoRow.holds Try.pinned (OpenSpec.upto ppuAsksSpec)

/-- 'arcadelaw6.PpuTimes', WHERE WHAT IT READS IS OF BULK AT MOST 1048576: true; the input reads as it did. -/
def ppuTimesUptoRow : OpenClaim := { program := "ytkfclamiendamaa", sum := "3db90b1e06483b5b3332ff839185748e708b98d16542674b7bfff09ba8ba2c74", func := "arcade/arcadelaw6.PpuTimes", spec := "ppuTimes", apart := false, narrowed := true }
def PpuTimesUptoSaid : Prop := ppuTimesUptoRow.holds Try.pinned (OpenSpec.upto ppuTimesSpec)

/-- 'arcadelaw6.PpuOff', WHERE WHAT IT READS IS OF BULK AT MOST 1048576: true; the input reads as it did. -/
def ppuOffUptoRow : OpenClaim := { program := "ytkfclamiendamaa", sum := "3db90b1e06483b5b3332ff839185748e708b98d16542674b7bfff09ba8ba2c74", func := "arcade/arcadelaw6.PpuOff", spec := "ppuOff", apart := false, narrowed := true }
def PpuOffUptoSaid : Prop := ppuOffUptoRow.holds Try.pinned (OpenSpec.upto ppuOffSpec)

/-- 'arcadelaw6.PpuLocked', WHERE WHAT IT READS IS OF BULK AT MOST 1048576: true; the input reads as it did. -/
def ppuLockedUptoRow : OpenClaim := { program := "ytkfclamiendamaa", sum := "3db90b1e06483b5b3332ff839185748e708b98d16542674b7bfff09ba8ba2c74", func := "arcade/arcadelaw6.PpuLocked", spec := "ppuLocked", apart := false, narrowed := true }
def PpuLockedUptoSaid : Prop := ppuLockedUptoRow.holds Try.pinned (OpenSpec.upto ppuLockedSpec)

/-- 'arcadelaw6.PpuCut', WHERE WHAT IT READS IS OF BULK AT MOST 1048576: true; the input reads as it did. -/
def ppuCutUptoRow : OpenClaim := { program := "ytkfclamiendamaa", sum := "3db90b1e06483b5b3332ff839185748e708b98d16542674b7bfff09ba8ba2c74", func := "arcade/arcadelaw6.PpuCut", spec := "ppuCut", unfollowed := true, recurses := true, apart := false, narrowed := true }
def PpuCutUptoSaid : Prop := ppuCutUptoRow.holds Try.pinned (OpenSpec.upto ppuCutSpec)

/-- 'arcadelaw6.PpuSteps', WHERE WHAT IT READS IS OF BULK AT MOST 1048576: true; the input reads as it did. -/
def ppuStepsUptoRow : OpenClaim := { program := "ytkfclamiendamaa", sum := "3db90b1e06483b5b3332ff839185748e708b98d16542674b7bfff09ba8ba2c74", func := "arcade/arcadelaw6.PpuSteps", spec := "ppuSteps", unfollowed := true, recurses := true, apart := false, narrowed := true }
def PpuStepsUptoSaid : Prop := ppuStepsUptoRow.holds Try.pinned (OpenSpec.upto ppuStepsSpec)

/-- 'arcadelaw6.PpuStates', WHERE WHAT IT READS IS OF BULK AT MOST 1048576: true; the input reads as it did. -/
def ppuStatesUptoRow : OpenClaim := { program := "ytkfclamiendamaa", sum := "3db90b1e06483b5b3332ff839185748e708b98d16542674b7bfff09ba8ba2c74", func := "arcade/arcadelaw6.PpuStates", spec := "ppuStates", unfollowed := true, recurses := true, apart := false, narrowed := true }
def PpuStatesUptoSaid : Prop := ppuStatesUptoRow.holds Try.pinned (OpenSpec.upto ppuStatesSpec)

end Rows
end Go.Proofs.Ytkfclamiendamaa
