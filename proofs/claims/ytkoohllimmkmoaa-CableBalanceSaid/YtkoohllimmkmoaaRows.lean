/-
  No cell of these rows narrows 'for every input' (looked for: loops, veiled, ifaces, maps, wideKeys, modest, calm, conditions, laid).
  DERIVED. THE GIVEN ROWS OF THIS SEAT. 12 by the template 'for every input the law returns true; each argument reads behind the call as it read before'; 0 by the template 'total and deterministic' (their statements: YtkoohllimmkmoaaTotals.lean).
  GIVEN WITH THE SEED: the statements are not yours to turn. If you find one false, say at which input.
  Laid BY PROGRAM, IN A SANDBOX (cutbox-rows.mjs): the forced cells as the released guide's own fill.sh prints them over the translation 7a624e72da1b6b46… (all of the seat's roots in one cut). By AI agents, Wed Nov 11 2026. No macro, syntax, notation, axiom, sorry.
-/
import Derived.Test.YtkoohllimmkmoaaChecked
import GoSem.Claim
import GoSem.ClaimJoined
import GoSem.ClaimMapViews
import Derived.JoinedTies
import Derived.KernelRfl
namespace Go.Proofs.Ytkoohllimmkmoaa
/- THE CELL 'sum', in the pinned program and in every row, IS THE sha256 OF THE DUMP (.gsa) THAT YtkoohllimmkmoaaProg.lean LOADS. Nothing in Lean hashes anything: it is a label: what it is worth is what the hold of that sum in a sandbox is worth. -/
noncomputable def Try.pinned : Pinned := { name := "ytkoohllimmkmoaa", sum := "7a624e72da1b6b46b714f9b3b9e6292c85aed2aadbe12a5d58f1ba70575871e6", checked := Try.checked }
namespace Rows
def none {H : Type} : Left H := { results := [], args := [] }

/-- 'moonpoollaw01.CableWound': WHATEVER THE INPUT: true; the input reads as it did. -/
def cableWoundSpec : ChangeSpec := { name := "cableWound", fn := fun _ => fun
  | [d1, d2, d3] => { results := [.lit (.bool true)], args := [d1, d2, d3] }
  | _ => none }
def cableWoundRow : OpenClaim := { program := "ytkoohllimmkmoaa", sum := "7a624e72da1b6b46b714f9b3b9e6292c85aed2aadbe12a5d58f1ba70575871e6", func := "moonpool/moonpoollaw01.CableWound", spec := "cableWound", unfollowed := true, recurses := true, apart := false }
def CableWoundSaid : Prop := cableWoundRow.holds Try.pinned (OpenSpec.ofChange cableWoundSpec)

/-- ITS FALSE NEIGHBOUR: 'it returns false'. Refute it at one input. -/
def cableWoundWrong : ChangeSpec := { name := "cableWound", fn := fun _ => fun
  | [d1, d2, d3] => { results := [.lit (.bool false)], args := [d1, d2, d3] }
  | _ => none }
def CableWoundWrongFalsely : Prop := cableWoundRow.holds Try.pinned (OpenSpec.ofChange cableWoundWrong)

/-- 'moonpoollaw01.CableTurns': WHATEVER THE INPUT: true; the input reads as it did. -/
def cableTurnsSpec : ChangeSpec := { name := "cableTurns", fn := fun _ => fun
  | [d1, d2, d3] => { results := [.lit (.bool true)], args := [d1, d2, d3] }
  | _ => none }
def cableTurnsRow : OpenClaim := { program := "ytkoohllimmkmoaa", sum := "7a624e72da1b6b46b714f9b3b9e6292c85aed2aadbe12a5d58f1ba70575871e6", func := "moonpool/moonpoollaw01.CableTurns", spec := "cableTurns", unfollowed := true, recurses := true, apart := false }
def CableTurnsSaid : Prop := cableTurnsRow.holds Try.pinned (OpenSpec.ofChange cableTurnsSpec)

/-- ITS FALSE NEIGHBOUR: 'it returns false'. Refute it at one input. -/
def cableTurnsWrong : ChangeSpec := { name := "cableTurns", fn := fun _ => fun
  | [d1, d2, d3] => { results := [.lit (.bool false)], args := [d1, d2, d3] }
  | _ => none }
def CableTurnsWrongFalsely : Prop := cableTurnsRow.holds Try.pinned (OpenSpec.ofChange cableTurnsWrong)

/-- 'moonpoollaw01.CableTensions': WHATEVER THE INPUT: true; the input reads as it did. -/
def cableTensionsSpec : ChangeSpec := { name := "cableTensions", fn := fun _ => fun
  | [d1, d2, d3] => { results := [.lit (.bool true)], args := [d1, d2, d3] }
  | _ => none }
def cableTensionsRow : OpenClaim := { program := "ytkoohllimmkmoaa", sum := "7a624e72da1b6b46b714f9b3b9e6292c85aed2aadbe12a5d58f1ba70575871e6", func := "moonpool/moonpoollaw01.CableTensions", spec := "cableTensions", unfollowed := true, recurses := true, apart := false }
def CableTensionsSaid : Prop := cableTensionsRow.holds Try.pinned (OpenSpec.ofChange cableTensionsSpec)

/-- ITS FALSE NEIGHBOUR: 'it returns false'. Refute it at one input. -/
def cableTensionsWrong : ChangeSpec := { name := "cableTensions", fn := fun _ => fun
  | [d1, d2, d3] => { results := [.lit (.bool false)], args := [d1, d2, d3] }
  | _ => none }
def CableTensionsWrongFalsely : Prop := cableTensionsRow.holds Try.pinned (OpenSpec.ofChange cableTensionsWrong)

/-- 'moonpoollaw01.CableBroken': WHATEVER THE INPUT: true; the input reads as it did. -/
def cableBrokenSpec : ChangeSpec := { name := "cableBroken", fn := fun _ => fun
  | [d1, d2, d3] => { results := [.lit (.bool true)], args := [d1, d2, d3] }
  | _ => none }
def cableBrokenRow : OpenClaim := { program := "ytkoohllimmkmoaa", sum := "7a624e72da1b6b46b714f9b3b9e6292c85aed2aadbe12a5d58f1ba70575871e6", func := "moonpool/moonpoollaw01.CableBroken", spec := "cableBroken", unfollowed := true, recurses := true, apart := false }
def CableBrokenSaid : Prop := cableBrokenRow.holds Try.pinned (OpenSpec.ofChange cableBrokenSpec)

/-- ITS FALSE NEIGHBOUR: 'it returns false'. Refute it at one input. -/
def cableBrokenWrong : ChangeSpec := { name := "cableBroken", fn := fun _ => fun
  | [d1, d2, d3] => { results := [.lit (.bool false)], args := [d1, d2, d3] }
  | _ => none }
def CableBrokenWrongFalsely : Prop := cableBrokenRow.holds Try.pinned (OpenSpec.ofChange cableBrokenWrong)

/-- 'moonpoollaw01.CableLines': WHATEVER THE INPUT: true; the input reads as it did. -/
def cableLinesSpec : ChangeSpec := { name := "cableLines", fn := fun _ => fun
  | [d1, d2] => { results := [.lit (.bool true)], args := [d1, d2] }
  | _ => none }
def cableLinesRow : OpenClaim := { program := "ytkoohllimmkmoaa", sum := "7a624e72da1b6b46b714f9b3b9e6292c85aed2aadbe12a5d58f1ba70575871e6", func := "moonpool/moonpoollaw01.CableLines", spec := "cableLines", unfollowed := true, recurses := true, apart := false }
def CableLinesSaid : Prop := cableLinesRow.holds Try.pinned (OpenSpec.ofChange cableLinesSpec)

/-- ITS FALSE NEIGHBOUR: 'it returns false'. Refute it at one input. -/
def cableLinesWrong : ChangeSpec := { name := "cableLines", fn := fun _ => fun
  | [d1, d2] => { results := [.lit (.bool false)], args := [d1, d2] }
  | _ => none }
def CableLinesWrongFalsely : Prop := cableLinesRow.holds Try.pinned (OpenSpec.ofChange cableLinesWrong)

/-- 'moonpoollaw01.CableShapes': WHATEVER THE INPUT: true; the input reads as it did. -/
def cableShapesSpec : ChangeSpec := { name := "cableShapes", fn := fun _ => fun
  | [d1, d2] => { results := [.lit (.bool true)], args := [d1, d2] }
  | _ => none }
def cableShapesRow : OpenClaim := { program := "ytkoohllimmkmoaa", sum := "7a624e72da1b6b46b714f9b3b9e6292c85aed2aadbe12a5d58f1ba70575871e6", func := "moonpool/moonpoollaw01.CableShapes", spec := "cableShapes", unfollowed := true, recurses := true, apart := false }
def CableShapesSaid : Prop := cableShapesRow.holds Try.pinned (OpenSpec.ofChange cableShapesSpec)

/-- ITS FALSE NEIGHBOUR: 'it returns false'. Refute it at one input. -/
def cableShapesWrong : ChangeSpec := { name := "cableShapes", fn := fun _ => fun
  | [d1, d2] => { results := [.lit (.bool false)], args := [d1, d2] }
  | _ => none }
def CableShapesWrongFalsely : Prop := cableShapesRow.holds Try.pinned (OpenSpec.ofChange cableShapesWrong)

/-- 'moonpoollaw01.CableBalance': WHATEVER THE INPUT: true; the input reads as it did. -/
def cableBalanceSpec : ChangeSpec := { name := "cableBalance", fn := fun _ => fun
  | [d1, d2, d3] => { results := [.lit (.bool true)], args := [d1, d2, d3] }
  | _ => none }
def cableBalanceRow : OpenClaim := { program := "ytkoohllimmkmoaa", sum := "7a624e72da1b6b46b714f9b3b9e6292c85aed2aadbe12a5d58f1ba70575871e6", func := "moonpool/moonpoollaw01.CableBalance", spec := "cableBalance", unfollowed := true, recurses := true, apart := false }
def CableBalanceSaid : Prop := cableBalanceRow.holds Try.pinned (OpenSpec.ofChange cableBalanceSpec)

/-- ITS FALSE NEIGHBOUR: 'it returns false'. Refute it at one input. -/
def cableBalanceWrong : ChangeSpec := { name := "cableBalance", fn := fun _ => fun
  | [d1, d2, d3] => { results := [.lit (.bool false)], args := [d1, d2, d3] }
  | _ => none }
def CableBalanceWrongFalsely : Prop := cableBalanceRow.holds Try.pinned (OpenSpec.ofChange cableBalanceWrong)

/-- 'moonpoollaw01.CableBoxes': WHATEVER THE INPUT: true; the input reads as it did. -/
def cableBoxesSpec : ChangeSpec := { name := "cableBoxes", fn := fun _ => fun
  | [d1, d2] => { results := [.lit (.bool true)], args := [d1, d2] }
  | _ => none }
def cableBoxesRow : OpenClaim := { program := "ytkoohllimmkmoaa", sum := "7a624e72da1b6b46b714f9b3b9e6292c85aed2aadbe12a5d58f1ba70575871e6", func := "moonpool/moonpoollaw01.CableBoxes", spec := "cableBoxes", unfollowed := true, recurses := true, apart := false }
def CableBoxesSaid : Prop := cableBoxesRow.holds Try.pinned (OpenSpec.ofChange cableBoxesSpec)

/-- ITS FALSE NEIGHBOUR: 'it returns false'. Refute it at one input. -/
def cableBoxesWrong : ChangeSpec := { name := "cableBoxes", fn := fun _ => fun
  | [d1, d2] => { results := [.lit (.bool false)], args := [d1, d2] }
  | _ => none }
def CableBoxesWrongFalsely : Prop := cableBoxesRow.holds Try.pinned (OpenSpec.ofChange cableBoxesWrong)

/-- 'moonpoollaw01.CableEvery': WHATEVER THE INPUT: true; the input reads as it did. -/
def cableEverySpec : ChangeSpec := { name := "cableEvery", fn := fun _ => fun
  | [d1, d2, d3] => { results := [.lit (.bool true)], args := [d1, d2, d3] }
  | _ => none }
def cableEveryRow : OpenClaim := { program := "ytkoohllimmkmoaa", sum := "7a624e72da1b6b46b714f9b3b9e6292c85aed2aadbe12a5d58f1ba70575871e6", func := "moonpool/moonpoollaw01.CableEvery", spec := "cableEvery", unfollowed := true, recurses := true, apart := false }
def CableEverySaid : Prop := cableEveryRow.holds Try.pinned (OpenSpec.ofChange cableEverySpec)

/-- ITS FALSE NEIGHBOUR: 'it returns false'. Refute it at one input. -/
def cableEveryWrong : ChangeSpec := { name := "cableEvery", fn := fun _ => fun
  | [d1, d2, d3] => { results := [.lit (.bool false)], args := [d1, d2, d3] }
  | _ => none }
def CableEveryWrongFalsely : Prop := cableEveryRow.holds Try.pinned (OpenSpec.ofChange cableEveryWrong)

/-- 'moonpoollaw01.CableReadings': WHATEVER THE INPUT: true; the input reads as it did. -/
def cableReadingsSpec : ChangeSpec := { name := "cableReadings", fn := fun _ => fun
  | [d1, d2, d3] => { results := [.lit (.bool true)], args := [d1, d2, d3] }
  | _ => none }
def cableReadingsRow : OpenClaim := { program := "ytkoohllimmkmoaa", sum := "7a624e72da1b6b46b714f9b3b9e6292c85aed2aadbe12a5d58f1ba70575871e6", func := "moonpool/moonpoollaw01.CableReadings", spec := "cableReadings", unfollowed := true, recurses := true, apart := false }
def CableReadingsSaid : Prop := cableReadingsRow.holds Try.pinned (OpenSpec.ofChange cableReadingsSpec)

/-- ITS FALSE NEIGHBOUR: 'it returns false'. Refute it at one input. -/
def cableReadingsWrong : ChangeSpec := { name := "cableReadings", fn := fun _ => fun
  | [d1, d2, d3] => { results := [.lit (.bool false)], args := [d1, d2, d3] }
  | _ => none }
def CableReadingsWrongFalsely : Prop := cableReadingsRow.holds Try.pinned (OpenSpec.ofChange cableReadingsWrong)

/-- 'moonpoollaw01.CableAgreed': WHATEVER THE INPUT: true; the input reads as it did. -/
def cableAgreedSpec : ChangeSpec := { name := "cableAgreed", fn := fun _ => fun
  | [d1, d2, d3] => { results := [.lit (.bool true)], args := [d1, d2, d3] }
  | _ => none }
def cableAgreedRow : OpenClaim := { program := "ytkoohllimmkmoaa", sum := "7a624e72da1b6b46b714f9b3b9e6292c85aed2aadbe12a5d58f1ba70575871e6", func := "moonpool/moonpoollaw01.CableAgreed", spec := "cableAgreed", unfollowed := true, recurses := true, apart := false }
def CableAgreedSaid : Prop := cableAgreedRow.holds Try.pinned (OpenSpec.ofChange cableAgreedSpec)

/-- ITS FALSE NEIGHBOUR: 'it returns false'. Refute it at one input. -/
def cableAgreedWrong : ChangeSpec := { name := "cableAgreed", fn := fun _ => fun
  | [d1, d2, d3] => { results := [.lit (.bool false)], args := [d1, d2, d3] }
  | _ => none }
def CableAgreedWrongFalsely : Prop := cableAgreedRow.holds Try.pinned (OpenSpec.ofChange cableAgreedWrong)

/-- 'moonpooltop.TopCableUnwound': WHATEVER THE INPUT: true; the input reads as it did. -/
def topCableUnwoundSpec : ChangeSpec := { name := "topCableUnwound", fn := fun _ => fun
  | [d1, d2, d3] => { results := [.lit (.bool true)], args := [d1, d2, d3] }
  | _ => none }
def topCableUnwoundRow : OpenClaim := { program := "ytkoohllimmkmoaa", sum := "7a624e72da1b6b46b714f9b3b9e6292c85aed2aadbe12a5d58f1ba70575871e6", func := "moonpool/moonpooltop.TopCableUnwound", spec := "topCableUnwound", unfollowed := true, recurses := true, apart := false }
def TopCableUnwoundSaid : Prop := topCableUnwoundRow.holds Try.pinned (OpenSpec.ofChange topCableUnwoundSpec)

/-- ITS FALSE NEIGHBOUR: 'it returns false'. Refute it at one input. -/
def topCableUnwoundWrong : ChangeSpec := { name := "topCableUnwound", fn := fun _ => fun
  | [d1, d2, d3] => { results := [.lit (.bool false)], args := [d1, d2, d3] }
  | _ => none }
def TopCableUnwoundWrongFalsely : Prop := topCableUnwoundRow.holds Try.pinned (OpenSpec.ofChange topCableUnwoundWrong)

/- THE SECOND FORM. 'bulk': how many values and letters a reading holds, each counted each time it is reached (what is shared counts as often as it is met; a slice's spare places count too). A statement '..UptoSaid' is the law's where the arguments, and the package variables that the reading takes, are together of bulk at most 1048576: NARROWER than '..Said'. Prove '..Said' where nothing that the law and all that it calls make is longer than what came in: it says more and counts as full. Else prove '..UptoSaid'. A law counts once. -/
mutual
def uptoBulk {H : Type} : DataW H → Nat
  | .lit (.string bytes) => bytes.length + 1
  | .lit _ => 1
  | .nil => 1
  | .ptr d => uptoBulk d + 1
  | .slice elems spare => uptoBulkAll elems + uptoBulkAll spare + 1
  | .agg parts => uptoBulkAll parts + 1
  | .iface _ d => uptoBulk d + 1
  | .map entries => uptoBulkEntries entries + 1
  | .held _ => 1
def uptoBulkAll {H : Type} : List (DataW H) → Nat
  | [] => 0
  | d :: r => uptoBulk d + uptoBulkAll r
def uptoBulkEntries {H : Type} : List (Lit × DataW H) → Nat
  | [] => 0
  | x :: r => uptoBulkEntry x + uptoBulkEntries r
def uptoBulkEntry {H : Type} : Lit × DataW H → Nat
  | (.string bytes, d) => bytes.length + uptoBulk d + 1
  | (_, d) => uptoBulk d + 1
 end
def uptoSmall : (H : Type) → List (DataW H) → Bool := fun _ ds => decide (uptoBulkAll ds ≤ 1048576)
def OpenSpec.upto (s : _root_.Go.ChangeSpec) : _root_.Go.OpenSpec := { _root_.Go.OpenSpec.ofChange s with cond := some uptoSmall }

/-- 'moonpoollaw01.CableWound', WHERE WHAT IT READS IS OF BULK AT MOST 1048576: true; the input reads as it did. -/
def cableWoundUptoRow : OpenClaim := { program := "ytkoohllimmkmoaa", sum := "7a624e72da1b6b46b714f9b3b9e6292c85aed2aadbe12a5d58f1ba70575871e6", func := "moonpool/moonpoollaw01.CableWound", spec := "cableWound", unfollowed := true, recurses := true, apart := false, narrowed := true }
def CableWoundUptoSaid : Prop := cableWoundUptoRow.holds Try.pinned (OpenSpec.upto cableWoundSpec)

/-- 'moonpoollaw01.CableTurns', WHERE WHAT IT READS IS OF BULK AT MOST 1048576: true; the input reads as it did. -/
def cableTurnsUptoRow : OpenClaim := { program := "ytkoohllimmkmoaa", sum := "7a624e72da1b6b46b714f9b3b9e6292c85aed2aadbe12a5d58f1ba70575871e6", func := "moonpool/moonpoollaw01.CableTurns", spec := "cableTurns", unfollowed := true, recurses := true, apart := false, narrowed := true }
def CableTurnsUptoSaid : Prop := cableTurnsUptoRow.holds Try.pinned (OpenSpec.upto cableTurnsSpec)

/-- 'moonpoollaw01.CableTensions', WHERE WHAT IT READS IS OF BULK AT MOST 1048576: true; the input reads as it did. -/
def cableTensionsUptoRow : OpenClaim := { program := "ytkoohllimmkmoaa", sum := "7a624e72da1b6b46b714f9b3b9e6292c85aed2aadbe12a5d58f1ba70575871e6", func := "moonpool/moonpoollaw01.CableTensions", spec := "cableTensions", unfollowed := true, recurses := true, apart := false, narrowed := true }
def CableTensionsUptoSaid : Prop := cableTensionsUptoRow.holds Try.pinned (OpenSpec.upto cableTensionsSpec)

/-- 'moonpoollaw01.CableBroken', WHERE WHAT IT READS IS OF BULK AT MOST 1048576: true; the input reads as it did. -/
def cableBrokenUptoRow : OpenClaim := { program := "ytkoohllimmkmoaa", sum := "7a624e72da1b6b46b714f9b3b9e6292c85aed2aadbe12a5d58f1ba70575871e6", func := "moonpool/moonpoollaw01.CableBroken", spec := "cableBroken", unfollowed := true, recurses := true, apart := false, narrowed := true }
def CableBrokenUptoSaid : Prop := cableBrokenUptoRow.holds Try.pinned (OpenSpec.upto cableBrokenSpec)

/-- 'moonpoollaw01.CableLines', WHERE WHAT IT READS IS OF BULK AT MOST 1048576: true; the input reads as it did. -/
def cableLinesUptoRow : OpenClaim := { program := "ytkoohllimmkmoaa", sum := "7a624e72da1b6b46b714f9b3b9e6292c85aed2aadbe12a5d58f1ba70575871e6", func := "moonpool/moonpoollaw01.CableLines", spec := "cableLines", unfollowed := true, recurses := true, apart := false, narrowed := true }
def CableLinesUptoSaid : Prop := cableLinesUptoRow.holds Try.pinned (OpenSpec.upto cableLinesSpec)

/-- 'moonpoollaw01.CableShapes', WHERE WHAT IT READS IS OF BULK AT MOST 1048576: true; the input reads as it did. -/
def cableShapesUptoRow : OpenClaim := { program := "ytkoohllimmkmoaa", sum := "7a624e72da1b6b46b714f9b3b9e6292c85aed2aadbe12a5d58f1ba70575871e6", func := "moonpool/moonpoollaw01.CableShapes", spec := "cableShapes", unfollowed := true, recurses := true, apart := false, narrowed := true }
def CableShapesUptoSaid : Prop := cableShapesUptoRow.holds Try.pinned (OpenSpec.upto cableShapesSpec)

/-- 'moonpoollaw01.CableBalance', WHERE WHAT IT READS IS OF BULK AT MOST 1048576: true; the input reads as it did. -/
def cableBalanceUptoRow : OpenClaim := { program := "ytkoohllimmkmoaa", sum := "7a624e72da1b6b46b714f9b3b9e6292c85aed2aadbe12a5d58f1ba70575871e6", func := "moonpool/moonpoollaw01.CableBalance", spec := "cableBalance", unfollowed := true, recurses := true, apart := false, narrowed := true }
def CableBalanceUptoSaid : Prop := cableBalanceUptoRow.holds Try.pinned (OpenSpec.upto cableBalanceSpec)

/-- 'moonpoollaw01.CableBoxes', WHERE WHAT IT READS IS OF BULK AT MOST 1048576: true; the input reads as it did. -/
def cableBoxesUptoRow : OpenClaim := { program := "ytkoohllimmkmoaa", sum := "7a624e72da1b6b46b714f9b3b9e6292c85aed2aadbe12a5d58f1ba70575871e6", func := "moonpool/moonpoollaw01.CableBoxes", spec := "cableBoxes", unfollowed := true, recurses := true, apart := false, narrowed := true }
def CableBoxesUptoSaid : Prop := cableBoxesUptoRow.holds Try.pinned (OpenSpec.upto cableBoxesSpec)

/-- 'moonpoollaw01.CableEvery', WHERE WHAT IT READS IS OF BULK AT MOST 1048576: true; the input reads as it did. -/
def cableEveryUptoRow : OpenClaim := { program := "ytkoohllimmkmoaa", sum := "7a624e72da1b6b46b714f9b3b9e6292c85aed2aadbe12a5d58f1ba70575871e6", func := "moonpool/moonpoollaw01.CableEvery", spec := "cableEvery", unfollowed := true, recurses := true, apart := false, narrowed := true }
def CableEveryUptoSaid : Prop := cableEveryUptoRow.holds Try.pinned (OpenSpec.upto cableEverySpec)

/-- 'moonpoollaw01.CableReadings', WHERE WHAT IT READS IS OF BULK AT MOST 1048576: true; the input reads as it did. -/
def cableReadingsUptoRow : OpenClaim := { program := "ytkoohllimmkmoaa", sum := "7a624e72da1b6b46b714f9b3b9e6292c85aed2aadbe12a5d58f1ba70575871e6", func := "moonpool/moonpoollaw01.CableReadings", spec := "cableReadings", unfollowed := true, recurses := true, apart := false, narrowed := true }
def CableReadingsUptoSaid : Prop := cableReadingsUptoRow.holds Try.pinned (OpenSpec.upto cableReadingsSpec)

/-- 'moonpoollaw01.CableAgreed', WHERE WHAT IT READS IS OF BULK AT MOST 1048576: true; the input reads as it did. -/
def cableAgreedUptoRow : OpenClaim := { program := "ytkoohllimmkmoaa", sum := "7a624e72da1b6b46b714f9b3b9e6292c85aed2aadbe12a5d58f1ba70575871e6", func := "moonpool/moonpoollaw01.CableAgreed", spec := "cableAgreed", unfollowed := true, recurses := true, apart := false, narrowed := true }
def CableAgreedUptoSaid : Prop := cableAgreedUptoRow.holds Try.pinned (OpenSpec.upto cableAgreedSpec)

/-- 'moonpooltop.TopCableUnwound', WHERE WHAT IT READS IS OF BULK AT MOST 1048576: true; the input reads as it did. -/
def topCableUnwoundUptoRow : OpenClaim := { program := "ytkoohllimmkmoaa", sum := "7a624e72da1b6b46b714f9b3b9e6292c85aed2aadbe12a5d58f1ba70575871e6", func := "moonpool/moonpooltop.TopCableUnwound", spec := "topCableUnwound", unfollowed := true, recurses := true, apart := false, narrowed := true }
def TopCableUnwoundUptoSaid : Prop := topCableUnwoundUptoRow.holds Try.pinned (OpenSpec.upto topCableUnwoundSpec)

end Rows
end Go.Proofs.Ytkoohllimmkmoaa
