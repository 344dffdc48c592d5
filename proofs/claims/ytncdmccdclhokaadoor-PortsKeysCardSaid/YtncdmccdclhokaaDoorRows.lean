/-
  NARROWER THAN 'FOR EVERY INPUT', by the rows' own cells (each row's printed sentence says how): PortsTimed: laid · PortsKeys: laid · PortsMasks: laid · PortsSend: laid · PortsCut: laid · PortsSets: laid · PortsLoaded: laid · PortsQuiet: laid · PortsRuns: laid · PortsAll: laid.
  DERIVED. THE GIVEN ROWS OF THIS SEAT. 10 by the template 'for every input the law returns true; each argument reads behind the call as it read before'; 0 by the template 'total and deterministic' (their statements: YtncdmccdclhokaaDoorTotals.lean).
  GIVEN WITH THE SEED: the statements are not yours to turn. If you find one false, say at which input.
  Laid BY PROGRAM, IN A SANDBOX (cutbox-rows.mjs): the forced cells as the released guide's own fill.sh prints them over the translation 936b261d904f01c1… (all of the seat's roots in one cut). By AI agents, Wed Nov 11 2026. No macro, syntax, notation, axiom, sorry.
-/
import Derived.Test.YtncdmccdclhokaaDoorChecked
import GoSem.Claim
import GoSem.ClaimJoined
import GoSem.ClaimMapViews
import Derived.JoinedTies
import Derived.KernelRfl
namespace Go.Proofs.YtncdmccdclhokaaDoor
/- THE CELL 'sum', in the pinned program and in every row, IS THE sha256 OF THE DUMP (.gsa) THAT YtncdmccdclhokaaDoorProg.lean LOADS. Nothing in Lean hashes anything: it is a label: what it is worth is what the hold of that sum in a sandbox is worth. -/
noncomputable def Tryd.pinned : Pinned := { name := "ytncdmccdclhokaadoor", sum := "936b261d904f01c14c61390163de727f36b2581d1be5731cc04ed03452229ea3", checked := Tryd.checked }
namespace Rows
def none {H : Type} : Left H := { results := [], args := [] }

/- WHAT THE LISTED PACKAGE-LEVEL VARIABLES READ AS WHEN THE CALL BEGINS. Each datum BY PROGRAM (the guide's laid-datum.mjs) off the statement by which the dump's own 'gosem.cut.vars' lays the variable. In a bare row this is a premise. The card (YtncdmccdclhokaaDoorCards.lean) ties it to the program's text. -/
def laid_arcade_ports_drives {H : Type} : DataW H := .agg [.lit (.int .u64 9), .lit (.int .u64 3), .lit (.int .u64 5), .lit (.int .u64 7)]

/-- 'arcadelaw5.PortsTimed': WHATEVER THE INPUT: true; the input reads as it did. -/
def portsTimedSpec : ChangeSpec := { name := "portsTimed", fn := fun _ => fun
  | [d1, d2, d3, d4] => { results := [.lit (.bool true)], args := [d1, d2, d3, d4] }
  | _ => none }
def portsTimedRow : OpenClaim := { program := "ytncdmccdclhokaadoor", sum := "936b261d904f01c14c61390163de727f36b2581d1be5731cc04ed03452229ea3", func := "arcade/arcadelaw5.PortsTimed", spec := "portsTimed", unfollowed := true, recurses := true, named := ["arcade/ports.drives"], apart := false, laid := [("arcade/ports.drives", laid_arcade_ports_drives)] }
def PortsTimedSaid : Prop := portsTimedRow.holds Tryd.pinned (OpenSpec.ofChange portsTimedSpec)

/-- ITS FALSE NEIGHBOUR: 'it returns false'. Refute it at one input. -/
def portsTimedWrong : ChangeSpec := { name := "portsTimed", fn := fun _ => fun
  | [d1, d2, d3, d4] => { results := [.lit (.bool false)], args := [d1, d2, d3, d4] }
  | _ => none }
def PortsTimedWrongFalsely : Prop := portsTimedRow.holds Tryd.pinned (OpenSpec.ofChange portsTimedWrong)

/-- 'arcadelaw5.PortsKeys': WHATEVER THE INPUT: true; the input reads as it did. -/
def portsKeysSpec : ChangeSpec := { name := "portsKeys", fn := fun _ => fun
  | [d1, d2, d3, d4] => { results := [.lit (.bool true)], args := [d1, d2, d3, d4] }
  | _ => none }
def portsKeysRow : OpenClaim := { program := "ytncdmccdclhokaadoor", sum := "936b261d904f01c14c61390163de727f36b2581d1be5731cc04ed03452229ea3", func := "arcade/arcadelaw5.PortsKeys", spec := "portsKeys", unfollowed := true, recurses := true, named := ["arcade/ports.drives"], apart := false, laid := [("arcade/ports.drives", laid_arcade_ports_drives)] }
def PortsKeysSaid : Prop := portsKeysRow.holds Tryd.pinned (OpenSpec.ofChange portsKeysSpec)

/-- ITS FALSE NEIGHBOUR: 'it returns false'. Refute it at one input. -/
def portsKeysWrong : ChangeSpec := { name := "portsKeys", fn := fun _ => fun
  | [d1, d2, d3, d4] => { results := [.lit (.bool false)], args := [d1, d2, d3, d4] }
  | _ => none }
def PortsKeysWrongFalsely : Prop := portsKeysRow.holds Tryd.pinned (OpenSpec.ofChange portsKeysWrong)

/-- 'arcadelaw5.PortsMasks': WHATEVER THE INPUT: true; the input reads as it did. -/
def portsMasksSpec : ChangeSpec := { name := "portsMasks", fn := fun _ => fun
  | [d1, d2] => { results := [.lit (.bool true)], args := [d1, d2] }
  | _ => none }
def portsMasksRow : OpenClaim := { program := "ytncdmccdclhokaadoor", sum := "936b261d904f01c14c61390163de727f36b2581d1be5731cc04ed03452229ea3", func := "arcade/arcadelaw5.PortsMasks", spec := "portsMasks", unfollowed := true, recurses := true, named := ["arcade/ports.drives"], apart := false, laid := [("arcade/ports.drives", laid_arcade_ports_drives)] }
def PortsMasksSaid : Prop := portsMasksRow.holds Tryd.pinned (OpenSpec.ofChange portsMasksSpec)

/-- ITS FALSE NEIGHBOUR: 'it returns false'. Refute it at one input. -/
def portsMasksWrong : ChangeSpec := { name := "portsMasks", fn := fun _ => fun
  | [d1, d2] => { results := [.lit (.bool false)], args := [d1, d2] }
  | _ => none }
def PortsMasksWrongFalsely : Prop := portsMasksRow.holds Tryd.pinned (OpenSpec.ofChange portsMasksWrong)

/-- 'arcadelaw5.PortsSend': WHATEVER THE INPUT: true; the input reads as it did. -/
def portsSendSpec : ChangeSpec := { name := "portsSend", fn := fun _ => fun
  | [d1, d2, d3] => { results := [.lit (.bool true)], args := [d1, d2, d3] }
  | _ => none }
def portsSendRow : OpenClaim := { program := "ytncdmccdclhokaadoor", sum := "936b261d904f01c14c61390163de727f36b2581d1be5731cc04ed03452229ea3", func := "arcade/arcadelaw5.PortsSend", spec := "portsSend", unfollowed := true, recurses := true, named := ["arcade/ports.drives"], apart := false, laid := [("arcade/ports.drives", laid_arcade_ports_drives)] }
def PortsSendSaid : Prop := portsSendRow.holds Tryd.pinned (OpenSpec.ofChange portsSendSpec)

/-- ITS FALSE NEIGHBOUR: 'it returns false'. Refute it at one input. -/
def portsSendWrong : ChangeSpec := { name := "portsSend", fn := fun _ => fun
  | [d1, d2, d3] => { results := [.lit (.bool false)], args := [d1, d2, d3] }
  | _ => none }
def PortsSendWrongFalsely : Prop := portsSendRow.holds Tryd.pinned (OpenSpec.ofChange portsSendWrong)

/-- 'arcadelaw5.PortsCut': WHATEVER THE INPUT: true; the input reads as it did. -/
def portsCutSpec : ChangeSpec := { name := "portsCut", fn := fun _ => fun
  | [d1, d2, d3] => { results := [.lit (.bool true)], args := [d1, d2, d3] }
  | _ => none }
def portsCutRow : OpenClaim := { program := "ytncdmccdclhokaadoor", sum := "936b261d904f01c14c61390163de727f36b2581d1be5731cc04ed03452229ea3", func := "arcade/arcadelaw5.PortsCut", spec := "portsCut", unfollowed := true, recurses := true, named := ["arcade/ports.drives"], apart := false, laid := [("arcade/ports.drives", laid_arcade_ports_drives)] }
def PortsCutSaid : Prop := portsCutRow.holds Tryd.pinned (OpenSpec.ofChange portsCutSpec)

/-- ITS FALSE NEIGHBOUR: 'it returns false'. Refute it at one input. -/
def portsCutWrong : ChangeSpec := { name := "portsCut", fn := fun _ => fun
  | [d1, d2, d3] => { results := [.lit (.bool false)], args := [d1, d2, d3] }
  | _ => none }
def PortsCutWrongFalsely : Prop := portsCutRow.holds Tryd.pinned (OpenSpec.ofChange portsCutWrong)

/-- 'arcadelaw5.PortsSets': WHATEVER THE INPUT: true; the input reads as it did. -/
def portsSetsSpec : ChangeSpec := { name := "portsSets", fn := fun _ => fun
  | [d1, d2] => { results := [.lit (.bool true)], args := [d1, d2] }
  | _ => none }
def portsSetsRow : OpenClaim := { program := "ytncdmccdclhokaadoor", sum := "936b261d904f01c14c61390163de727f36b2581d1be5731cc04ed03452229ea3", func := "arcade/arcadelaw5.PortsSets", spec := "portsSets", unfollowed := true, recurses := true, named := ["arcade/ports.drives"], apart := false, laid := [("arcade/ports.drives", laid_arcade_ports_drives)] }
def PortsSetsSaid : Prop := portsSetsRow.holds Tryd.pinned (OpenSpec.ofChange portsSetsSpec)

/-- ITS FALSE NEIGHBOUR: 'it returns false'. Refute it at one input. -/
def portsSetsWrong : ChangeSpec := { name := "portsSets", fn := fun _ => fun
  | [d1, d2] => { results := [.lit (.bool false)], args := [d1, d2] }
  | _ => none }
def PortsSetsWrongFalsely : Prop := portsSetsRow.holds Tryd.pinned (OpenSpec.ofChange portsSetsWrong)

/-- 'arcadelaw5.PortsLoaded': WHATEVER THE INPUT: true; the input reads as it did. -/
def portsLoadedSpec : ChangeSpec := { name := "portsLoaded", fn := fun _ => fun
  | [d1, d2, d3] => { results := [.lit (.bool true)], args := [d1, d2, d3] }
  | _ => none }
def portsLoadedRow : OpenClaim := { program := "ytncdmccdclhokaadoor", sum := "936b261d904f01c14c61390163de727f36b2581d1be5731cc04ed03452229ea3", func := "arcade/arcadelaw5.PortsLoaded", spec := "portsLoaded", unfollowed := true, recurses := true, named := ["arcade/ports.drives"], apart := false, laid := [("arcade/ports.drives", laid_arcade_ports_drives)] }
def PortsLoadedSaid : Prop := portsLoadedRow.holds Tryd.pinned (OpenSpec.ofChange portsLoadedSpec)

/-- ITS FALSE NEIGHBOUR: 'it returns false'. Refute it at one input. -/
def portsLoadedWrong : ChangeSpec := { name := "portsLoaded", fn := fun _ => fun
  | [d1, d2, d3] => { results := [.lit (.bool false)], args := [d1, d2, d3] }
  | _ => none }
def PortsLoadedWrongFalsely : Prop := portsLoadedRow.holds Tryd.pinned (OpenSpec.ofChange portsLoadedWrong)

/-- 'arcadelaw5.PortsQuiet': WHATEVER THE INPUT: true; the input reads as it did. -/
def portsQuietSpec : ChangeSpec := { name := "portsQuiet", fn := fun _ => fun
  | [d1, d2, d3] => { results := [.lit (.bool true)], args := [d1, d2, d3] }
  | _ => none }
def portsQuietRow : OpenClaim := { program := "ytncdmccdclhokaadoor", sum := "936b261d904f01c14c61390163de727f36b2581d1be5731cc04ed03452229ea3", func := "arcade/arcadelaw5.PortsQuiet", spec := "portsQuiet", unfollowed := true, recurses := true, named := ["arcade/ports.drives"], apart := false, laid := [("arcade/ports.drives", laid_arcade_ports_drives)] }
def PortsQuietSaid : Prop := portsQuietRow.holds Tryd.pinned (OpenSpec.ofChange portsQuietSpec)

/-- ITS FALSE NEIGHBOUR: 'it returns false'. Refute it at one input. -/
def portsQuietWrong : ChangeSpec := { name := "portsQuiet", fn := fun _ => fun
  | [d1, d2, d3] => { results := [.lit (.bool false)], args := [d1, d2, d3] }
  | _ => none }
def PortsQuietWrongFalsely : Prop := portsQuietRow.holds Tryd.pinned (OpenSpec.ofChange portsQuietWrong)

/-- 'arcadelaw5.PortsRuns': WHATEVER THE INPUT: true; the input reads as it did. -/
def portsRunsSpec : ChangeSpec := { name := "portsRuns", fn := fun _ => fun
  | [d] => { results := [.lit (.bool true)], args := [d] }
  | _ => none }
def portsRunsRow : OpenClaim := { program := "ytncdmccdclhokaadoor", sum := "936b261d904f01c14c61390163de727f36b2581d1be5731cc04ed03452229ea3", func := "arcade/arcadelaw5.PortsRuns", spec := "portsRuns", unfollowed := true, recurses := true, named := ["arcade/ports.drives"], apart := false, laid := [("arcade/ports.drives", laid_arcade_ports_drives)] }
def PortsRunsSaid : Prop := portsRunsRow.holds Tryd.pinned (OpenSpec.ofChange portsRunsSpec)

/-- ITS FALSE NEIGHBOUR: 'it returns false'. Refute it at one input. -/
def portsRunsWrong : ChangeSpec := { name := "portsRuns", fn := fun _ => fun
  | [d] => { results := [.lit (.bool false)], args := [d] }
  | _ => none }
def PortsRunsWrongFalsely : Prop := portsRunsRow.holds Tryd.pinned (OpenSpec.ofChange portsRunsWrong)

/-- 'arcadelaw5.PortsAll': WHATEVER THE INPUT: true; the input reads as it did. -/
def portsAllSpec : ChangeSpec := { name := "portsAll", fn := fun _ => fun
  | [d] => { results := [.lit (.bool true)], args := [d] }
  | _ => none }
def portsAllRow : OpenClaim := { program := "ytncdmccdclhokaadoor", sum := "936b261d904f01c14c61390163de727f36b2581d1be5731cc04ed03452229ea3", func := "arcade/arcadelaw5.PortsAll", spec := "portsAll", unfollowed := true, recurses := true, named := ["arcade/ports.drives"], apart := false, laid := [("arcade/ports.drives", laid_arcade_ports_drives)] }
def PortsAllSaid : Prop := portsAllRow.holds Tryd.pinned (OpenSpec.ofChange portsAllSpec)

/-- ITS FALSE NEIGHBOUR: 'it returns false'. Refute it at one input. -/
def portsAllWrong : ChangeSpec := { name := "portsAll", fn := fun _ => fun
  | [d] => { results := [.lit (.bool false)], args := [d] }
  | _ => none }
def PortsAllWrongFalsely : Prop := portsAllRow.holds Tryd.pinned (OpenSpec.ofChange portsAllWrong)

/- THE SECOND FORM. 'bulk': how many values and letters a reading holds, each counted each time it is reached (what is shared counts as often as it is met; a slice's spare places count too). A statement '..UptoSaid' is the law's where the arguments, and the package variables that the reading takes, are together of bulk at most 1048576: NARROWER than '..Said'. Prove '..Said' where nothing that the law and all that it calls make is longer than what came in: it says more and counts as full. Else prove '..UptoSaid'. A law counts once. -/
mutual
def uptoBulk {H : Type} : DataW H → Nat
  | .lit (.string bytes) => bytes.length + 1
  | .lit _ => 1
  | .nil => 1
  | .ptr d => uptoBulk d + 1
  | .slice elems spare => uptoBulkAll elems + uptoBulkAll spare + 1
  | .agg parts => uptoBulkAll parts + 1
  | .iface _ d => uptoBulk d + 1
  | .map entries => uptoBulkEntries entries + 1
  | .held _ => 1
def uptoBulkAll {H : Type} : List (DataW H) → Nat
  | [] => 0
  | d :: r => uptoBulk d + uptoBulkAll r
def uptoBulkEntries {H : Type} : List (Lit × DataW H) → Nat
  | [] => 0
  | x :: r => uptoBulkEntry x + uptoBulkEntries r
def uptoBulkEntry {H : Type} : Lit × DataW H → Nat
  | (.string bytes, d) => bytes.length + uptoBulk d + 1
  | (_, d) => uptoBulk d + 1
 end
def uptoSmall : (H : Type) → List (DataW H) → Bool := fun _ ds => decide (uptoBulkAll ds ≤ 1048576)
def OpenSpec.upto (s : _root_.Go.ChangeSpec) : _root_.Go.OpenSpec := { _root_.Go.OpenSpec.ofChange s with cond := some uptoSmall }

/-- 'arcadelaw5.PortsTimed', WHERE WHAT IT READS IS OF BULK AT MOST 1048576: true; the input reads as it did. -/
def portsTimedUptoRow : OpenClaim := { program := "ytncdmccdclhokaadoor", sum := "936b261d904f01c14c61390163de727f36b2581d1be5731cc04ed03452229ea3", func := "arcade/arcadelaw5.PortsTimed", spec := "portsTimed", unfollowed := true, recurses := true, named := ["arcade/ports.drives"], apart := false, laid := [("arcade/ports.drives", laid_arcade_ports_drives)], narrowed := true }
def PortsTimedUptoSaid : Prop := portsTimedUptoRow.holds Tryd.pinned (OpenSpec.upto portsTimedSpec)

/-- 'arcadelaw5.PortsKeys', WHERE WHAT IT READS IS OF BULK AT MOST 1048576: true; the input reads as it did. -/
def portsKeysUptoRow : OpenClaim := { program := "ytncdmccdclhokaadoor", sum := "936b261d904f01c14c61390163de727f36b2581d1be5731cc04ed03452229ea3", func := "arcade/arcadelaw5.PortsKeys", spec := "portsKeys", unfollowed := true, recurses := true, named := ["arcade/ports.drives"], apart := false, laid := [("arcade/ports.drives", laid_arcade_ports_drives)], narrowed := true }
def PortsKeysUptoSaid : Prop := portsKeysUptoRow.holds Tryd.pinned (OpenSpec.upto portsKeysSpec)

/-- 'arcadelaw5.PortsMasks', WHERE WHAT IT READS IS OF BULK AT MOST 1048576: true; the input reads as it did. -/
def portsMasksUptoRow : OpenClaim := { program := "ytncdmccdclhokaadoor", sum := "936b261d904f01c14c61390163de727f36b2581d1be5731cc04ed03452229ea3", func := "arcade/arcadelaw5.PortsMasks", spec := "portsMasks", unfollowed := true, recurses := true, named := ["arcade/ports.drives"], apart := false, laid := [("arcade/ports.drives", laid_arcade_ports_drives)], narrowed := true }
def PortsMasksUptoSaid : Prop := portsMasksUptoRow.holds Tryd.pinned (OpenSpec.upto portsMasksSpec)

/-- 'arcadelaw5.PortsSend', WHERE WHAT IT READS IS OF BULK AT MOST 1048576: true; the input reads as it did. -/
def portsSendUptoRow : OpenClaim := { program := "ytncdmccdclhokaadoor", sum := "936b261d904f01c14c61390163de727f36b2581d1be5731cc04ed03452229ea3", func := "arcade/arcadelaw5.PortsSend", spec := "portsSend", unfollowed := true, recurses := true, named := ["arcade/ports.drives"], apart := false, laid := [("arcade/ports.drives", laid_arcade_ports_drives)], narrowed := true }
def PortsSendUptoSaid : Prop := portsSendUptoRow.holds Tryd.pinned (OpenSpec.upto portsSendSpec)

/-- 'arcadelaw5.PortsCut', WHERE WHAT IT READS IS OF BULK AT MOST 1048576: true; the input reads as it did. -/
def portsCutUptoRow : OpenClaim := { program := "ytncdmccdclhokaadoor", sum := "936b261d904f01c14c61390163de727f36b2581d1be5731cc04ed03452229ea3", func := "arcade/arcadelaw5.PortsCut", spec := "portsCut", unfollowed := true, recurses := true, named := ["arcade/ports.drives"], apart := false, laid := [("arcade/ports.drives", laid_arcade_ports_drives)], narrowed := true }
def PortsCutUptoSaid : Prop := portsCutUptoRow.holds Tryd.pinned (OpenSpec.upto portsCutSpec)

/-- 'arcadelaw5.PortsSets', WHERE WHAT IT READS IS OF BULK AT MOST 1048576: true; the input reads as it did. -/
def portsSetsUptoRow : OpenClaim := { program := "ytncdmccdclhokaadoor", sum := "936b261d904f01c14c61390163de727f36b2581d1be5731cc04ed03452229ea3", func := "arcade/arcadelaw5.PortsSets", spec := "portsSets", unfollowed := true, recurses := true, named := ["arcade/ports.drives"], apart := false, laid := [("arcade/ports.drives", laid_arcade_ports_drives)], narrowed := true }
def PortsSetsUptoSaid : Prop := portsSetsUptoRow.holds Tryd.pinned (OpenSpec.upto portsSetsSpec)

/-- 'arcadelaw5.PortsLoaded', WHERE WHAT IT READS IS OF BULK AT MOST 1048576: true; the input reads as it did. -/
def portsLoadedUptoRow : OpenClaim := { program := "ytncdmccdclhokaadoor", sum := "936b261d904f01c14c61390163de727f36b2581d1be5731cc04ed03452229ea3", func := "arcade/arcadelaw5.PortsLoaded", spec := "portsLoaded", unfollowed := true, recurses := true, named := ["arcade/ports.drives"], apart := false, laid := [("arcade/ports.drives", laid_arcade_ports_drives)], narrowed := true }
def PortsLoadedUptoSaid : Prop := portsLoadedUptoRow.holds Tryd.pinned (OpenSpec.upto portsLoadedSpec)

/-- 'arcadelaw5.PortsQuiet', WHERE WHAT IT READS IS OF BULK AT MOST 1048576: true; the input reads as it did. -/
def portsQuietUptoRow : OpenClaim := { program := "ytncdmccdclhokaadoor", sum := "936b261d904f01c14c61390163de727f36b2581d1be5731cc04ed03452229ea3", func := "arcade/arcadelaw5.PortsQuiet", spec := "portsQuiet", unfollowed := true, recurses := true, named := ["arcade/ports.drives"], apart := false, laid := [("arcade/ports.drives", laid_arcade_ports_drives)], narrowed := true }
def PortsQuietUptoSaid : Prop := portsQuietUptoRow.holds Tryd.pinned (OpenSpec.upto portsQuietSpec)

/-- 'arcadelaw5.PortsRuns', WHERE WHAT IT READS IS OF BULK AT MOST 1048576: true; the input reads as it did. -/
def portsRunsUptoRow : OpenClaim := { program := "ytncdmccdclhokaadoor", sum := "936b261d904f01c14c61390163de727f36b2581d1be5731cc04ed03452229ea3", func := "arcade/arcadelaw5.PortsRuns", spec := "portsRuns", unfollowed := true, recurses := true, named := ["arcade/ports.drives"], apart := false, laid := [("arcade/ports.drives", laid_arcade_ports_drives)], narrowed := true }
def PortsRunsUptoSaid : Prop := portsRunsUptoRow.holds Tryd.pinned (OpenSpec.upto portsRunsSpec)

/-- 'arcadelaw5.PortsAll', WHERE WHAT IT READS IS OF BULK AT MOST 1048576: true; the input reads as it did. -/
def portsAllUptoRow : OpenClaim := { program := "ytncdmccdclhokaadoor", sum := "936b261d904f01c14c61390163de727f36b2581d1be5731cc04ed03452229ea3", func := "arcade/arcadelaw5.PortsAll", spec := "portsAll", unfollowed := true, recurses := true, named := ["arcade/ports.drives"], apart := false, laid := [("arcade/ports.drives", laid_arcade_ports_drives)], narrowed := true }
def PortsAllUptoSaid : Prop := portsAllUptoRow.holds Tryd.pinned (OpenSpec.upto portsAllSpec)

end Rows
end Go.Proofs.YtncdmccdclhokaaDoor
