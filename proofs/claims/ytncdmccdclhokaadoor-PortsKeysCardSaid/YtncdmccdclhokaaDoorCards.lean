/-
  DERIVED. GIVEN WITH THE SEED: THE CARDS: each row of YtncdmccdclhokaaDoorRows.lean that lists a variable, with what it lists TIED to the program's text (the seventh form; the later family's looks); each row that meets fmt, with fmt's text TOLD by the authors' own Lean function (tested against real Go, not proved from fmt's source: count such statements apart). THE CARD IS WHAT COUNTS. Prove the row's statement (the work); the ties are given (YtncdmccdclhokaaDoorTie.lean); close each card by the builder's one call (the guide's Derived/Test/ToyasCard.lean, 'card_holds'). Laid BY PROGRAM, IN A SANDBOX (cutbox-door.mjs). By AI agents, Wed Nov 11 2026. No macro, syntax, notation, axiom, sorry.
-/
import Derived.Test.YtncdmccdclhokaaDoorRows
import GoSem.ClaimSeven
namespace Go.Proofs.YtncdmccdclhokaaDoor
namespace Rows

/-- THE TIED CARD OF 'arcadelaw5.PortsTimed'. -/
def portsTimedCard : Claim7 := { stood := { row := portsTimedRow, standIns := [], harness := (true, "4174598c6e6604586a07fc41ccdc0ebcd65be24a0d47b6b86947a9593883118e"), looks := false }, kinds := [], alts := [], laidByText := true, laidKinds := [.data], laidTests := true, laidLooks := .later }
def PortsTimedCardSaid : Prop := Claim7.holds Tryd.pinned (.plain (OpenSpec.ofChange portsTimedSpec)) portsTimedCard

/-- THE TIED CARD OF 'arcadelaw5.PortsKeys'. -/
def portsKeysCard : Claim7 := { stood := { row := portsKeysRow, standIns := [], harness := (true, "4174598c6e6604586a07fc41ccdc0ebcd65be24a0d47b6b86947a9593883118e"), looks := false }, kinds := [], alts := [], laidByText := true, laidKinds := [.data], laidTests := true, laidLooks := .later }
def PortsKeysCardSaid : Prop := Claim7.holds Tryd.pinned (.plain (OpenSpec.ofChange portsKeysSpec)) portsKeysCard

/-- THE TIED CARD OF 'arcadelaw5.PortsMasks'. -/
def portsMasksCard : Claim7 := { stood := { row := portsMasksRow, standIns := [], harness := (true, "4174598c6e6604586a07fc41ccdc0ebcd65be24a0d47b6b86947a9593883118e"), looks := false }, kinds := [], alts := [], laidByText := true, laidKinds := [.data], laidTests := true, laidLooks := .later }
def PortsMasksCardSaid : Prop := Claim7.holds Tryd.pinned (.plain (OpenSpec.ofChange portsMasksSpec)) portsMasksCard

/-- THE TIED CARD OF 'arcadelaw5.PortsSend'. -/
def portsSendCard : Claim7 := { stood := { row := portsSendRow, standIns := [], harness := (true, "4174598c6e6604586a07fc41ccdc0ebcd65be24a0d47b6b86947a9593883118e"), looks := false }, kinds := [], alts := [], laidByText := true, laidKinds := [.data], laidTests := true, laidLooks := .later }
def PortsSendCardSaid : Prop := Claim7.holds Tryd.pinned (.plain (OpenSpec.ofChange portsSendSpec)) portsSendCard

/-- THE TIED CARD OF 'arcadelaw5.PortsCut'. -/
def portsCutCard : Claim7 := { stood := { row := portsCutRow, standIns := [], harness := (true, "4174598c6e6604586a07fc41ccdc0ebcd65be24a0d47b6b86947a9593883118e"), looks := false }, kinds := [], alts := [], laidByText := true, laidKinds := [.data], laidTests := true, laidLooks := .later }
def PortsCutCardSaid : Prop := Claim7.holds Tryd.pinned (.plain (OpenSpec.ofChange portsCutSpec)) portsCutCard

/-- THE TIED CARD OF 'arcadelaw5.PortsSets'. -/
def portsSetsCard : Claim7 := { stood := { row := portsSetsRow, standIns := [], harness := (true, "4174598c6e6604586a07fc41ccdc0ebcd65be24a0d47b6b86947a9593883118e"), looks := false }, kinds := [], alts := [], laidByText := true, laidKinds := [.data], laidTests := true, laidLooks := .later }
def PortsSetsCardSaid : Prop := Claim7.holds Tryd.pinned (.plain (OpenSpec.ofChange portsSetsSpec)) portsSetsCard

/-- THE TIED CARD OF 'arcadelaw5.PortsLoaded'. -/
def portsLoadedCard : Claim7 := { stood := { row := portsLoadedRow, standIns := [], harness := (true, "4174598c6e6604586a07fc41ccdc0ebcd65be24a0d47b6b86947a9593883118e"), looks := false }, kinds := [], alts := [], laidByText := true, laidKinds := [.data], laidTests := true, laidLooks := .later }
def PortsLoadedCardSaid : Prop := Claim7.holds Tryd.pinned (.plain (OpenSpec.ofChange portsLoadedSpec)) portsLoadedCard

/-- THE TIED CARD OF 'arcadelaw5.PortsQuiet'. -/
def portsQuietCard : Claim7 := { stood := { row := portsQuietRow, standIns := [], harness := (true, "4174598c6e6604586a07fc41ccdc0ebcd65be24a0d47b6b86947a9593883118e"), looks := false }, kinds := [], alts := [], laidByText := true, laidKinds := [.data], laidTests := true, laidLooks := .later }
def PortsQuietCardSaid : Prop := Claim7.holds Tryd.pinned (.plain (OpenSpec.ofChange portsQuietSpec)) portsQuietCard

/-- THE TIED CARD OF 'arcadelaw5.PortsRuns'. -/
def portsRunsCard : Claim7 := { stood := { row := portsRunsRow, standIns := [], harness := (true, "4174598c6e6604586a07fc41ccdc0ebcd65be24a0d47b6b86947a9593883118e"), looks := false }, kinds := [], alts := [], laidByText := true, laidKinds := [.data], laidTests := true, laidLooks := .later }
def PortsRunsCardSaid : Prop := Claim7.holds Tryd.pinned (.plain (OpenSpec.ofChange portsRunsSpec)) portsRunsCard

/-- THE TIED CARD OF 'arcadelaw5.PortsAll'. -/
def portsAllCard : Claim7 := { stood := { row := portsAllRow, standIns := [], harness := (true, "4174598c6e6604586a07fc41ccdc0ebcd65be24a0d47b6b86947a9593883118e"), looks := false }, kinds := [], alts := [], laidByText := true, laidKinds := [.data], laidTests := true, laidLooks := .later }
def PortsAllCardSaid : Prop := Claim7.holds Tryd.pinned (.plain (OpenSpec.ofChange portsAllSpec)) portsAllCard

/-- THE SECOND FORM's CARD OF 'arcadelaw5.PortsTimed'. -/
def portsTimedUptoCard : Claim7 := { stood := { row := portsTimedUptoRow, standIns := [], harness := (true, "4174598c6e6604586a07fc41ccdc0ebcd65be24a0d47b6b86947a9593883118e"), looks := false }, kinds := [], alts := [], laidByText := true, laidKinds := [.data], laidTests := true, laidLooks := .later }
def PortsTimedUptoCardSaid : Prop := Claim7.holds Tryd.pinned (.plain (OpenSpec.upto portsTimedSpec)) portsTimedUptoCard

/-- THE SECOND FORM's CARD OF 'arcadelaw5.PortsKeys'. -/
def portsKeysUptoCard : Claim7 := { stood := { row := portsKeysUptoRow, standIns := [], harness := (true, "4174598c6e6604586a07fc41ccdc0ebcd65be24a0d47b6b86947a9593883118e"), looks := false }, kinds := [], alts := [], laidByText := true, laidKinds := [.data], laidTests := true, laidLooks := .later }
def PortsKeysUptoCardSaid : Prop := Claim7.holds Tryd.pinned (.plain (OpenSpec.upto portsKeysSpec)) portsKeysUptoCard

/-- THE SECOND FORM's CARD OF 'arcadelaw5.PortsMasks'. -/
def portsMasksUptoCard : Claim7 := { stood := { row := portsMasksUptoRow, standIns := [], harness := (true, "4174598c6e6604586a07fc41ccdc0ebcd65be24a0d47b6b86947a9593883118e"), looks := false }, kinds := [], alts := [], laidByText := true, laidKinds := [.data], laidTests := true, laidLooks := .later }
def PortsMasksUptoCardSaid : Prop := Claim7.holds Tryd.pinned (.plain (OpenSpec.upto portsMasksSpec)) portsMasksUptoCard

/-- THE SECOND FORM's CARD OF 'arcadelaw5.PortsSend'. -/
def portsSendUptoCard : Claim7 := { stood := { row := portsSendUptoRow, standIns := [], harness := (true, "4174598c6e6604586a07fc41ccdc0ebcd65be24a0d47b6b86947a9593883118e"), looks := false }, kinds := [], alts := [], laidByText := true, laidKinds := [.data], laidTests := true, laidLooks := .later }
def PortsSendUptoCardSaid : Prop := Claim7.holds Tryd.pinned (.plain (OpenSpec.upto portsSendSpec)) portsSendUptoCard

/-- THE SECOND FORM's CARD OF 'arcadelaw5.PortsCut'. -/
def portsCutUptoCard : Claim7 := { stood := { row := portsCutUptoRow, standIns := [], harness := (true, "4174598c6e6604586a07fc41ccdc0ebcd65be24a0d47b6b86947a9593883118e"), looks := false }, kinds := [], alts := [], laidByText := true, laidKinds := [.data], laidTests := true, laidLooks := .later }
def PortsCutUptoCardSaid : Prop := Claim7.holds Tryd.pinned (.plain (OpenSpec.upto portsCutSpec)) portsCutUptoCard

/-- THE SECOND FORM's CARD OF 'arcadelaw5.PortsSets'. -/
def portsSetsUptoCard : Claim7 := { stood := { row := portsSetsUptoRow, standIns := [], harness := (true, "4174598c6e6604586a07fc41ccdc0ebcd65be24a0d47b6b86947a9593883118e"), looks := false }, kinds := [], alts := [], laidByText := true, laidKinds := [.data], laidTests := true, laidLooks := .later }
def PortsSetsUptoCardSaid : Prop := Claim7.holds Tryd.pinned (.plain (OpenSpec.upto portsSetsSpec)) portsSetsUptoCard

/-- THE SECOND FORM's CARD OF 'arcadelaw5.PortsLoaded'. -/
def portsLoadedUptoCard : Claim7 := { stood := { row := portsLoadedUptoRow, standIns := [], harness := (true, "4174598c6e6604586a07fc41ccdc0ebcd65be24a0d47b6b86947a9593883118e"), looks := false }, kinds := [], alts := [], laidByText := true, laidKinds := [.data], laidTests := true, laidLooks := .later }
def PortsLoadedUptoCardSaid : Prop := Claim7.holds Tryd.pinned (.plain (OpenSpec.upto portsLoadedSpec)) portsLoadedUptoCard

/-- THE SECOND FORM's CARD OF 'arcadelaw5.PortsQuiet'. -/
def portsQuietUptoCard : Claim7 := { stood := { row := portsQuietUptoRow, standIns := [], harness := (true, "4174598c6e6604586a07fc41ccdc0ebcd65be24a0d47b6b86947a9593883118e"), looks := false }, kinds := [], alts := [], laidByText := true, laidKinds := [.data], laidTests := true, laidLooks := .later }
def PortsQuietUptoCardSaid : Prop := Claim7.holds Tryd.pinned (.plain (OpenSpec.upto portsQuietSpec)) portsQuietUptoCard

/-- THE SECOND FORM's CARD OF 'arcadelaw5.PortsRuns'. -/
def portsRunsUptoCard : Claim7 := { stood := { row := portsRunsUptoRow, standIns := [], harness := (true, "4174598c6e6604586a07fc41ccdc0ebcd65be24a0d47b6b86947a9593883118e"), looks := false }, kinds := [], alts := [], laidByText := true, laidKinds := [.data], laidTests := true, laidLooks := .later }
def PortsRunsUptoCardSaid : Prop := Claim7.holds Tryd.pinned (.plain (OpenSpec.upto portsRunsSpec)) portsRunsUptoCard

/-- THE SECOND FORM's CARD OF 'arcadelaw5.PortsAll'. -/
def portsAllUptoCard : Claim7 := { stood := { row := portsAllUptoRow, standIns := [], harness := (true, "4174598c6e6604586a07fc41ccdc0ebcd65be24a0d47b6b86947a9593883118e"), looks := false }, kinds := [], alts := [], laidByText := true, laidKinds := [.data], laidTests := true, laidLooks := .later }
def PortsAllUptoCardSaid : Prop := Claim7.holds Tryd.pinned (.plain (OpenSpec.upto portsAllSpec)) portsAllUptoCard
end Rows
end Go.Proofs.YtncdmccdclhokaaDoor
