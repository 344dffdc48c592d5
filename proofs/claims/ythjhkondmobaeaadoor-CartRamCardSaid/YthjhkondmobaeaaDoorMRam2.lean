import Derived.Test.YthjhkondmobaeaaDoorMRam1
import Derived.Test.YthjhkondmobaeaaDoorRows
import GoSem.ClaimSeven
/-
  DERIVED. GIVEN WITH THE SEED: THE CARDS: each row of YthjhkondmobaeaaDoorRows.lean that lists a variable, with what it lists TIED to the program's text (the seventh form; the later family's looks); each row that meets fmt, with fmt's text TOLD by the authors' own Lean function (tested against real Go, not proved from fmt's source: count such statements apart). THE CARD IS WHAT COUNTS. Prove the row's statement (the work); the ties are given (YthjhkondmobaeaaDoorTie.lean); close each card by the builder's one call (the guide's Derived/Test/ToyasCard.lean, 'card_holds'). Laid BY PROGRAM, IN A SANDBOX (cutbox-door.mjs). By AI agents, Wed Nov 11 2026. No macro, syntax, notation, axiom, sorry.
-/
namespace Go.Proofs.YthjhkondmobaeaaDoor
namespace Rows

/-- THE TIED CARD OF 'arcadelaw4.CartStrict'. -/
def cartStrictCard : Claim7 := { stood := { row := cartStrictRow, standIns := [], harness := (true, "6b147aa737b5fa91f3f35154997b53c2918ac6595e3997464fafcf9022d803c1"), looks := true }, kinds := [], alts := [], laidByText := true, laidKinds := [.data], laidTests := true, laidLooks := .later }
def CartStrictCardSaid : Prop := Claim7.holds Tryd.pinned (.plain (OpenSpec.ofChange cartStrictSpec)) cartStrictCard

/-- THE TIED CARD OF 'arcadelaw4.CartBanks'. -/
def cartBanksCard : Claim7 := { stood := { row := cartBanksRow, standIns := [], harness := (true, "6b147aa737b5fa91f3f35154997b53c2918ac6595e3997464fafcf9022d803c1"), looks := true }, kinds := [], alts := [], laidByText := true, laidKinds := [.data], laidTests := true, laidLooks := .later }
def CartBanksCardSaid : Prop := Claim7.holds Tryd.pinned (.plain (OpenSpec.ofChange cartBanksSpec)) cartBanksCard

/-- THE TIED CARD OF 'arcadelaw4.CartRam'. -/
def cartRamCard : Claim7 := { stood := { row := cartRamRow, standIns := [], harness := (true, "6b147aa737b5fa91f3f35154997b53c2918ac6595e3997464fafcf9022d803c1"), looks := true }, kinds := [], alts := [], laidByText := true, laidKinds := [.data], laidTests := true, laidLooks := .later }
def CartRamCardSaid : Prop := Claim7.holds Tryd.pinned (.plain (OpenSpec.ofChange cartRamSpec)) cartRamCard

/-- THE TIED CARD OF 'arcadelaw4.CartSaves'. -/
def cartSavesCard : Claim7 := { stood := { row := cartSavesRow, standIns := [], harness := (true, "6b147aa737b5fa91f3f35154997b53c2918ac6595e3997464fafcf9022d803c1"), looks := true }, kinds := [], alts := [], laidByText := true, laidKinds := [.data], laidTests := true, laidLooks := .later }
def CartSavesCardSaid : Prop := Claim7.holds Tryd.pinned (.plain (OpenSpec.ofChange cartSavesSpec)) cartSavesCard

/-- THE SECOND FORM's CARD OF 'arcadelaw4.CartStrict'. -/
def cartStrictUptoCard : Claim7 := { stood := { row := cartStrictUptoRow, standIns := [], harness := (true, "6b147aa737b5fa91f3f35154997b53c2918ac6595e3997464fafcf9022d803c1"), looks := true }, kinds := [], alts := [], laidByText := true, laidKinds := [.data], laidTests := true, laidLooks := .later }
def CartStrictUptoCardSaid : Prop := Claim7.holds Tryd.pinned (.plain (OpenSpec.upto cartStrictSpec)) cartStrictUptoCard

/-- THE SECOND FORM's CARD OF 'arcadelaw4.CartBanks'. -/
def cartBanksUptoCard : Claim7 := { stood := { row := cartBanksUptoRow, standIns := [], harness := (true, "6b147aa737b5fa91f3f35154997b53c2918ac6595e3997464fafcf9022d803c1"), looks := true }, kinds := [], alts := [], laidByText := true, laidKinds := [.data], laidTests := true, laidLooks := .later }
def CartBanksUptoCardSaid : Prop := Claim7.holds Tryd.pinned (.plain (OpenSpec.upto cartBanksSpec)) cartBanksUptoCard

/-- THE SECOND FORM's CARD OF 'arcadelaw4.CartRam'. -/
def cartRamUptoCard : Claim7 := { stood := { row := cartRamUptoRow, standIns := [], harness := (true, "6b147aa737b5fa91f3f35154997b53c2918ac6595e3997464fafcf9022d803c1"), looks := true }, kinds := [], alts := [], laidByText := true, laidKinds := [.data], laidTests := true, laidLooks := .later }
def CartRamUptoCardSaid : Prop := Claim7.holds Tryd.pinned (.plain (OpenSpec.upto cartRamSpec)) cartRamUptoCard

/-- THE SECOND FORM's CARD OF 'arcadelaw4.CartSaves'. -/
def cartSavesUptoCard : Claim7 := { stood := { row := cartSavesUptoRow, standIns := [], harness := (true, "6b147aa737b5fa91f3f35154997b53c2918ac6595e3997464fafcf9022d803c1"), looks := true }, kinds := [], alts := [], laidByText := true, laidKinds := [.data], laidTests := true, laidLooks := .later }
def CartSavesUptoCardSaid : Prop := Claim7.holds Tryd.pinned (.plain (OpenSpec.upto cartSavesSpec)) cartSavesUptoCard
end Rows
end Go.Proofs.YthjhkondmobaeaaDoor
