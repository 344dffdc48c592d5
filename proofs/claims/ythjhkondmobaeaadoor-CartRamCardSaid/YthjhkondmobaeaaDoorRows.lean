/-
  NARROWER THAN 'FOR EVERY INPUT', by the rows' own cells (each row's printed sentence says how): CartStrict: laid · CartBanks: laid · CartRam: laid · CartSaves: laid.
  DERIVED. THE GIVEN ROWS OF THIS SEAT. 4 by the template 'for every input the law returns true; each argument reads behind the call as it read before'; 0 by the template 'total and deterministic' (their statements: YthjhkondmobaeaaDoorTotals.lean).
  GIVEN WITH THE SEED: the statements are not yours to turn. If you find one false, say at which input.
  Laid BY PROGRAM, IN A SANDBOX (cutbox-rows.mjs): the forced cells as the released guide's own fill.sh prints them over the translation 0e9dc88048588427… (all of the seat's roots in one cut). By AI agents, Wed Nov 11 2026. No macro, syntax, notation, axiom, sorry.
-/
import Derived.Test.YthjhkondmobaeaaDoorChecked
import GoSem.Claim
import GoSem.ClaimJoined
import GoSem.ClaimMapViews
import Derived.JoinedTies
import Derived.KernelRfl
namespace Go.Proofs.YthjhkondmobaeaaDoor
/- THE CELL 'sum', in the pinned program and in every row, IS THE sha256 OF THE DUMP (.gsa) THAT YthjhkondmobaeaaDoorProg.lean LOADS. Nothing in Lean hashes anything: it is a label: what it is worth is what the hold of that sum in a sandbox is worth. -/
noncomputable def Tryd.pinned : Pinned := { name := "ythjhkondmobaeaadoor", sum := "0e9dc88048588427632b235583cc6758b4909604e4411dc342dc7b39f9fcee6e", checked := Tryd.checked }
namespace Rows
def none {H : Type} : Left H := { results := [], args := [] }

/- WHAT THE LISTED PACKAGE-LEVEL VARIABLES READ AS WHEN THE CALL BEGINS. Each datum BY PROGRAM (the guide's laid-datum.mjs) off the statement by which the dump's own 'gosem.cut.vars' lays the variable. In a bare row this is a premise. The card (YthjhkondmobaeaaDoorCards.lean) ties it to the program's text. -/
def laid_arcade_arcadelaw4_types {H : Type} : DataW H := .slice [.lit (.int .i64 0), .lit (.int .i64 1), .lit (.int .i64 5), .lit (.int .i64 17), .lit (.int .i64 25), .lit (.int .i64 9), .lit (.int .i64 3), .lit (.int .i64 6), .lit (.int .i64 19), .lit (.int .i64 27)] []

/-- 'arcadelaw4.CartStrict': WHATEVER THE INPUT: true; the input reads as it did. -/
def cartStrictSpec : ChangeSpec := { name := "cartStrict", fn := fun _ => fun
  | [d1, d2, d3] => { results := [.lit (.bool true)], args := [d1, d2, d3] }
  | _ => none }
def cartStrictRow : OpenClaim := { program := "ythjhkondmobaeaadoor", sum := "0e9dc88048588427632b235583cc6758b4909604e4411dc342dc7b39f9fcee6e", func := "arcade/arcadelaw4.CartStrict", spec := "cartStrict", unfollowed := true, recurses := true, named := ["arcade/arcadelaw4.types"], apart := false, laid := [("arcade/arcadelaw4.types", laid_arcade_arcadelaw4_types)] }
def CartStrictSaid : Prop := cartStrictRow.holds Tryd.pinned (OpenSpec.ofChange cartStrictSpec)

/-- ITS FALSE NEIGHBOUR: 'it returns false'. Refute it at one input. -/
def cartStrictWrong : ChangeSpec := { name := "cartStrict", fn := fun _ => fun
  | [d1, d2, d3] => { results := [.lit (.bool false)], args := [d1, d2, d3] }
  | _ => none }
def CartStrictWrongFalsely : Prop := cartStrictRow.holds Tryd.pinned (OpenSpec.ofChange cartStrictWrong)

/-- 'arcadelaw4.CartBanks': WHATEVER THE INPUT: true; the input reads as it did. -/
def cartBanksSpec : ChangeSpec := { name := "cartBanks", fn := fun _ => fun
  | [d1, d2, d3, d4, d5] => { results := [.lit (.bool true)], args := [d1, d2, d3, d4, d5] }
  | _ => none }
def cartBanksRow : OpenClaim := { program := "ythjhkondmobaeaadoor", sum := "0e9dc88048588427632b235583cc6758b4909604e4411dc342dc7b39f9fcee6e", func := "arcade/arcadelaw4.CartBanks", spec := "cartBanks", unfollowed := true, recurses := true, named := ["arcade/arcadelaw4.types"], apart := false, laid := [("arcade/arcadelaw4.types", laid_arcade_arcadelaw4_types)] }
def CartBanksSaid : Prop := cartBanksRow.holds Tryd.pinned (OpenSpec.ofChange cartBanksSpec)

/-- ITS FALSE NEIGHBOUR: 'it returns false'. Refute it at one input. -/
def cartBanksWrong : ChangeSpec := { name := "cartBanks", fn := fun _ => fun
  | [d1, d2, d3, d4, d5] => { results := [.lit (.bool false)], args := [d1, d2, d3, d4, d5] }
  | _ => none }
def CartBanksWrongFalsely : Prop := cartBanksRow.holds Tryd.pinned (OpenSpec.ofChange cartBanksWrong)

/-- 'arcadelaw4.CartRam': WHATEVER THE INPUT: true; the input reads as it did. -/
def cartRamSpec : ChangeSpec := { name := "cartRam", fn := fun _ => fun
  | [d1, d2, d3, d4, d5] => { results := [.lit (.bool true)], args := [d1, d2, d3, d4, d5] }
  | _ => none }
def cartRamRow : OpenClaim := { program := "ythjhkondmobaeaadoor", sum := "0e9dc88048588427632b235583cc6758b4909604e4411dc342dc7b39f9fcee6e", func := "arcade/arcadelaw4.CartRam", spec := "cartRam", unfollowed := true, recurses := true, named := ["arcade/arcadelaw4.types"], apart := false, laid := [("arcade/arcadelaw4.types", laid_arcade_arcadelaw4_types)] }
def CartRamSaid : Prop := cartRamRow.holds Tryd.pinned (OpenSpec.ofChange cartRamSpec)

/-- ITS FALSE NEIGHBOUR: 'it returns false'. Refute it at one input. -/
def cartRamWrong : ChangeSpec := { name := "cartRam", fn := fun _ => fun
  | [d1, d2, d3, d4, d5] => { results := [.lit (.bool false)], args := [d1, d2, d3, d4, d5] }
  | _ => none }
def CartRamWrongFalsely : Prop := cartRamRow.holds Tryd.pinned (OpenSpec.ofChange cartRamWrong)

/-- 'arcadelaw4.CartSaves': WHATEVER THE INPUT: true; the input reads as it did. -/
def cartSavesSpec : ChangeSpec := { name := "cartSaves", fn := fun _ => fun
  | [d1, d2, d3] => { results := [.lit (.bool true)], args := [d1, d2, d3] }
  | _ => none }
def cartSavesRow : OpenClaim := { program := "ythjhkondmobaeaadoor", sum := "0e9dc88048588427632b235583cc6758b4909604e4411dc342dc7b39f9fcee6e", func := "arcade/arcadelaw4.CartSaves", spec := "cartSaves", unfollowed := true, recurses := true, named := ["arcade/arcadelaw4.types"], apart := false, laid := [("arcade/arcadelaw4.types", laid_arcade_arcadelaw4_types)] }
def CartSavesSaid : Prop := cartSavesRow.holds Tryd.pinned (OpenSpec.ofChange cartSavesSpec)

/-- ITS FALSE NEIGHBOUR: 'it returns false'. Refute it at one input. -/
def cartSavesWrong : ChangeSpec := { name := "cartSaves", fn := fun _ => fun
  | [d1, d2, d3] => { results := [.lit (.bool false)], args := [d1, d2, d3] }
  | _ => none }
def CartSavesWrongFalsely : Prop := cartSavesRow.holds Tryd.pinned (OpenSpec.ofChange cartSavesWrong)

/- THE SECOND FORM. 'bulk': how many values and letters a reading holds, each counted each time it is reached (what is shared counts as often as it is met; a slice's spare places count too). A statement '..UptoSaid' is the law's where the arguments, and the package variables that the reading takes, are together of bulk at most 1048576: NARROWER than '..Said'. Prove '..Said' where nothing that the law and all that it calls make is longer than what came in: it says more and counts as full. Else prove '..UptoSaid'. A law counts once. -/
mutual
def uptoBulk {H : Type} : DataW H → Nat
  | .lit (.string bytes) => bytes.length + 1
  | .lit _ => 1
  | .nil => 1
  | .ptr d => uptoBulk d + 1
  | .slice elems spare => uptoBulkAll elems + uptoBulkAll spare + 1
  | .agg parts => uptoBulkAll parts + 1
  | .iface _ d => uptoBulk d + 1
  | .map entries => uptoBulkEntries entries + 1
  | .held _ => 1
def uptoBulkAll {H : Type} : List (DataW H) → Nat
  | [] => 0
  | d :: r => uptoBulk d + uptoBulkAll r
def uptoBulkEntries {H : Type} : List (Lit × DataW H) → Nat
  | [] => 0
  | x :: r => uptoBulkEntry x + uptoBulkEntries r
def uptoBulkEntry {H : Type} : Lit × DataW H → Nat
  | (.string bytes, d) => bytes.length + uptoBulk d + 1
  | (_, d) => uptoBulk d + 1
 end
def uptoSmall : (H : Type) → List (DataW H) → Bool := fun _ ds => decide (uptoBulkAll ds ≤ 1048576)
def OpenSpec.upto (s : _root_.Go.ChangeSpec) : _root_.Go.OpenSpec := { _root_.Go.OpenSpec.ofChange s with cond := some uptoSmall }

/-- 'arcadelaw4.CartStrict', WHERE WHAT IT READS IS OF BULK AT MOST 1048576: true; the input reads as it did. -/
def cartStrictUptoRow : OpenClaim := { program := "ythjhkondmobaeaadoor", sum := "0e9dc88048588427632b235583cc6758b4909604e4411dc342dc7b39f9fcee6e", func := "arcade/arcadelaw4.CartStrict", spec := "cartStrict", unfollowed := true, recurses := true, named := ["arcade/arcadelaw4.types"], apart := false, laid := [("arcade/arcadelaw4.types", laid_arcade_arcadelaw4_types)], narrowed := true }
def CartStrictUptoSaid : Prop := cartStrictUptoRow.holds Tryd.pinned (OpenSpec.upto cartStrictSpec)

/-- 'arcadelaw4.CartBanks', WHERE WHAT IT READS IS OF BULK AT MOST 1048576: true; the input reads as it did. -/
def cartBanksUptoRow : OpenClaim := { program := "ythjhkondmobaeaadoor", sum := "0e9dc88048588427632b235583cc6758b4909604e4411dc342dc7b39f9fcee6e", func := "arcade/arcadelaw4.CartBanks", spec := "cartBanks", unfollowed := true, recurses := true, named := ["arcade/arcadelaw4.types"], apart := false, laid := [("arcade/arcadelaw4.types", laid_arcade_arcadelaw4_types)], narrowed := true }
def CartBanksUptoSaid : Prop := cartBanksUptoRow.holds Tryd.pinned (OpenSpec.upto cartBanksSpec)

/-- 'arcadelaw4.CartRam', WHERE WHAT IT READS IS OF BULK AT MOST 1048576: true; the input reads as it did. -/
def cartRamUptoRow : OpenClaim := { program := "ythjhkondmobaeaadoor", sum := "0e9dc88048588427632b235583cc6758b4909604e4411dc342dc7b39f9fcee6e", func := "arcade/arcadelaw4.CartRam", spec := "cartRam", unfollowed := true, recurses := true, named := ["arcade/arcadelaw4.types"], apart := false, laid := [("arcade/arcadelaw4.types", laid_arcade_arcadelaw4_types)], narrowed := true }
def CartRamUptoSaid : Prop := cartRamUptoRow.holds Tryd.pinned (OpenSpec.upto cartRamSpec)

/-- 'arcadelaw4.CartSaves', WHERE WHAT IT READS IS OF BULK AT MOST 1048576: true; the input reads as it did. -/
def cartSavesUptoRow : OpenClaim := { program := "ythjhkondmobaeaadoor", sum := "0e9dc88048588427632b235583cc6758b4909604e4411dc342dc7b39f9fcee6e", func := "arcade/arcadelaw4.CartSaves", spec := "cartSaves", unfollowed := true, recurses := true, named := ["arcade/arcadelaw4.types"], apart := false, laid := [("arcade/arcadelaw4.types", laid_arcade_arcadelaw4_types)], narrowed := true }
def CartSavesUptoSaid : Prop := cartSavesUptoRow.holds Tryd.pinned (OpenSpec.upto cartSavesSpec)

end Rows
end Go.Proofs.YthjhkondmobaeaaDoor
