/-
  DERIVED. GIVEN WITH THE SEED: THE CARDS: each row of YtggcobcogdhfhaaGreatDoorRows.lean that lists a variable, with what it lists TIED to the program's text (the seventh form; the later family's looks); each row that meets fmt, with fmt's text TOLD by the authors' own Lean function (tested against real Go, not proved from fmt's source: count such statements apart). THE CARD IS WHAT COUNTS. Prove the row's statement (the work); the ties are given (YtggcobcogdhfhaaGreatDoorTie.lean); close each card by the builder's one call (the guide's Derived/Test/ToyasCard.lean, 'card_holds'). Laid BY PROGRAM, IN A SANDBOX (cutbox-door.mjs). By AI agents, Wed Nov 11 2026. No macro, syntax, notation, axiom, sorry.
-/
import Derived.Test.YtggcobcogdhfhaaGreatDoorRows
import GoSem.ClaimSeven
namespace Go.Proofs.YtggcobcogdhfhaaGreatDoor
namespace Rows

/-- THE TIED CARD OF 'moonpoollaw04.SonarStrings'. -/
def sonarStringsCard : Claim7 := { stood := { row := sonarStringsRow, standIns := [], harness := (true, "9aab5aad1b66f51c842d1983beae4b516ca64e198cf37c568b2a43f08e44bb6e"), looks := true }, kinds := [], alts := [], laidByText := true, laidKinds := [.data, .data, .data, .data, .sentinel, .sentinel, .pinned], laidTests := true, laidLooks := .later }
def SonarStringsCardSaid : Prop := Claim7.holds Tryz.pinned (.plain (OpenSpec.ofChange sonarStringsSpec)) sonarStringsCard

/-- THE TIED CARD OF 'moonpooltop.TopSonarSeen'. -/
def topSonarSeenCard : Claim7 := { stood := { row := topSonarSeenRow, standIns := [], harness := (true, "9aab5aad1b66f51c842d1983beae4b516ca64e198cf37c568b2a43f08e44bb6e"), looks := true }, kinds := [], alts := [], laidByText := true, laidKinds := [.data, .data, .data, .data, .sentinel, .sentinel, .pinned], laidTests := true, laidLooks := .later }
def TopSonarSeenCardSaid : Prop := Claim7.holds Tryz.pinned (.plain (OpenSpec.ofChange topSonarSeenSpec)) topSonarSeenCard

/-- THE SECOND FORM's CARD OF 'moonpoollaw04.SonarStrings'. -/
def sonarStringsUptoCard : Claim7 := { stood := { row := sonarStringsUptoRow, standIns := [], harness := (true, "9aab5aad1b66f51c842d1983beae4b516ca64e198cf37c568b2a43f08e44bb6e"), looks := true }, kinds := [], alts := [], laidByText := true, laidKinds := [.data, .data, .data, .data, .sentinel, .sentinel, .pinned], laidTests := true, laidLooks := .later }
def SonarStringsUptoCardSaid : Prop := Claim7.holds Tryz.pinned (.plain (OpenSpec.upto sonarStringsSpec)) sonarStringsUptoCard

/-- THE SECOND FORM's CARD OF 'moonpooltop.TopSonarSeen'. -/
def topSonarSeenUptoCard : Claim7 := { stood := { row := topSonarSeenUptoRow, standIns := [], harness := (true, "9aab5aad1b66f51c842d1983beae4b516ca64e198cf37c568b2a43f08e44bb6e"), looks := true }, kinds := [], alts := [], laidByText := true, laidKinds := [.data, .data, .data, .data, .sentinel, .sentinel, .pinned], laidTests := true, laidLooks := .later }
def TopSonarSeenUptoCardSaid : Prop := Claim7.holds Tryz.pinned (.plain (OpenSpec.upto topSonarSeenSpec)) topSonarSeenUptoCard
end Rows
end Go.Proofs.YtggcobcogdhfhaaGreatDoor
