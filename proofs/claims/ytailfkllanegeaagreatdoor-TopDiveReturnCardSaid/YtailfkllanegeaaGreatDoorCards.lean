/-
  DERIVED. GIVEN WITH THE SEED: THE CARDS: each row of YtailfkllanegeaaGreatDoorRows.lean that lists a variable, with what it lists TIED to the program's text (the seventh form; the later family's looks); each row that meets fmt, with fmt's text TOLD by the authors' own Lean function (tested against real Go, not proved from fmt's source: count such statements apart). THE CARD IS WHAT COUNTS. Prove the row's statement (the work); the ties are given (YtailfkllanegeaaGreatDoorTie.lean); close each card by the builder's one call (the guide's Derived/Test/ToyasCard.lean, 'card_holds'). Laid BY PROGRAM, IN A SANDBOX (cutbox-door.mjs). By AI agents, Wed Nov 11 2026. No macro, syntax, notation, axiom, sorry.
-/
import Derived.Test.YtailfkllanegeaaGreatDoorRows
import GoSem.ClaimSeven
namespace Go.Proofs.YtailfkllanegeaaGreatDoor
namespace Rows

/-- THE TIED CARD OF 'moonpoollaw01.CableStrings'. -/
def cableStringsCard : Claim7 := { stood := { row := cableStringsRow, standIns := [], harness := (true, "ab0ad2688efc77b1af25035b2f6d3f5847084c03f38490e574dab7e3cb281bfc"), looks := true }, kinds := [], alts := [], laidByText := true, laidKinds := [.data, .data, .data, .data, .sentinel, .sentinel, .pinned], laidTests := true, laidLooks := .later }
def CableStringsCardSaid : Prop := Claim7.holds Tryz.pinned (.plain (OpenSpec.ofChange cableStringsSpec)) cableStringsCard

/-- THE TIED CARD OF 'moonpoollaw08.DiveStrings'. -/
def diveStringsCard : Claim7 := { stood := { row := diveStringsRow, standIns := [], harness := (true, "ab0ad2688efc77b1af25035b2f6d3f5847084c03f38490e574dab7e3cb281bfc"), looks := true }, kinds := [], alts := [], laidByText := true, laidKinds := [.data, .data, .data, .data, .sentinel, .sentinel, .pinned], laidTests := true, laidLooks := .later }
def DiveStringsCardSaid : Prop := Claim7.holds Tryz.pinned (.plain (OpenSpec.ofChange diveStringsSpec)) diveStringsCard

/-- THE TIED CARD OF 'moonpooltop.TopCableHolds'. -/
def topCableHoldsCard : Claim7 := { stood := { row := topCableHoldsRow, standIns := [], harness := (true, "ab0ad2688efc77b1af25035b2f6d3f5847084c03f38490e574dab7e3cb281bfc"), looks := true }, kinds := [], alts := [], laidByText := true, laidKinds := [.data, .data, .data, .data, .sentinel, .sentinel, .pinned], laidTests := true, laidLooks := .later }
def TopCableHoldsCardSaid : Prop := Claim7.holds Tryz.pinned (.plain (OpenSpec.ofChange topCableHoldsSpec)) topCableHoldsCard

/-- THE TIED CARD OF 'moonpooltop.TopDivePriced'. -/
def topDivePricedCard : Claim7 := { stood := { row := topDivePricedRow, standIns := [], harness := (true, "ab0ad2688efc77b1af25035b2f6d3f5847084c03f38490e574dab7e3cb281bfc"), looks := true }, kinds := [], alts := [], laidByText := true, laidKinds := [.data, .data, .data, .data, .sentinel, .sentinel, .pinned], laidTests := true, laidLooks := .later }
def TopDivePricedCardSaid : Prop := Claim7.holds Tryz.pinned (.plain (OpenSpec.ofChange topDivePricedSpec)) topDivePricedCard

/-- THE TIED CARD OF 'moonpooltop.TopDiveReturn'. -/
def topDiveReturnCard : Claim7 := { stood := { row := topDiveReturnRow, standIns := [], harness := (true, "ab0ad2688efc77b1af25035b2f6d3f5847084c03f38490e574dab7e3cb281bfc"), looks := true }, kinds := [], alts := [], laidByText := true, laidKinds := [.data, .data, .data, .data, .sentinel, .sentinel, .pinned], laidTests := true, laidLooks := .later }
def TopDiveReturnCardSaid : Prop := Claim7.holds Tryz.pinned (.plain (OpenSpec.ofChange topDiveReturnSpec)) topDiveReturnCard

/-- THE SECOND FORM's CARD OF 'moonpoollaw01.CableStrings'. -/
def cableStringsUptoCard : Claim7 := { stood := { row := cableStringsUptoRow, standIns := [], harness := (true, "ab0ad2688efc77b1af25035b2f6d3f5847084c03f38490e574dab7e3cb281bfc"), looks := true }, kinds := [], alts := [], laidByText := true, laidKinds := [.data, .data, .data, .data, .sentinel, .sentinel, .pinned], laidTests := true, laidLooks := .later }
def CableStringsUptoCardSaid : Prop := Claim7.holds Tryz.pinned (.plain (OpenSpec.upto cableStringsSpec)) cableStringsUptoCard

/-- THE SECOND FORM's CARD OF 'moonpoollaw08.DiveStrings'. -/
def diveStringsUptoCard : Claim7 := { stood := { row := diveStringsUptoRow, standIns := [], harness := (true, "ab0ad2688efc77b1af25035b2f6d3f5847084c03f38490e574dab7e3cb281bfc"), looks := true }, kinds := [], alts := [], laidByText := true, laidKinds := [.data, .data, .data, .data, .sentinel, .sentinel, .pinned], laidTests := true, laidLooks := .later }
def DiveStringsUptoCardSaid : Prop := Claim7.holds Tryz.pinned (.plain (OpenSpec.upto diveStringsSpec)) diveStringsUptoCard

/-- THE SECOND FORM's CARD OF 'moonpooltop.TopCableHolds'. -/
def topCableHoldsUptoCard : Claim7 := { stood := { row := topCableHoldsUptoRow, standIns := [], harness := (true, "ab0ad2688efc77b1af25035b2f6d3f5847084c03f38490e574dab7e3cb281bfc"), looks := true }, kinds := [], alts := [], laidByText := true, laidKinds := [.data, .data, .data, .data, .sentinel, .sentinel, .pinned], laidTests := true, laidLooks := .later }
def TopCableHoldsUptoCardSaid : Prop := Claim7.holds Tryz.pinned (.plain (OpenSpec.upto topCableHoldsSpec)) topCableHoldsUptoCard

/-- THE SECOND FORM's CARD OF 'moonpooltop.TopDivePriced'. -/
def topDivePricedUptoCard : Claim7 := { stood := { row := topDivePricedUptoRow, standIns := [], harness := (true, "ab0ad2688efc77b1af25035b2f6d3f5847084c03f38490e574dab7e3cb281bfc"), looks := true }, kinds := [], alts := [], laidByText := true, laidKinds := [.data, .data, .data, .data, .sentinel, .sentinel, .pinned], laidTests := true, laidLooks := .later }
def TopDivePricedUptoCardSaid : Prop := Claim7.holds Tryz.pinned (.plain (OpenSpec.upto topDivePricedSpec)) topDivePricedUptoCard

/-- THE SECOND FORM's CARD OF 'moonpooltop.TopDiveReturn'. -/
def topDiveReturnUptoCard : Claim7 := { stood := { row := topDiveReturnUptoRow, standIns := [], harness := (true, "ab0ad2688efc77b1af25035b2f6d3f5847084c03f38490e574dab7e3cb281bfc"), looks := true }, kinds := [], alts := [], laidByText := true, laidKinds := [.data, .data, .data, .data, .sentinel, .sentinel, .pinned], laidTests := true, laidLooks := .later }
def TopDiveReturnUptoCardSaid : Prop := Claim7.holds Tryz.pinned (.plain (OpenSpec.upto topDiveReturnSpec)) topDiveReturnUptoCard
end Rows
end Go.Proofs.YtailfkllanegeaaGreatDoor
