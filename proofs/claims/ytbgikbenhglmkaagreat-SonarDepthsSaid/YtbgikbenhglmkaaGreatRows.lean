/-
  No cell of these rows narrows 'for every input' (looked for: loops, veiled, ifaces, maps, wideKeys, modest, calm, conditions, laid).
  DERIVED. THE GIVEN ROWS OF THIS SEAT. 7 by the template 'for every input the law returns true; each argument reads behind the call as it read before'; 0 by the template 'total and deterministic' (their statements: YtbgikbenhglmkaaGreatTotals.lean).
  GIVEN WITH THE SEED: the statements are not yours to turn. If you find one false, say at which input.
  Laid BY PROGRAM, IN A SANDBOX (cutbox-rows.mjs): the forced cells as the released guide's own fill.sh prints them over the translation 43697c311beaff10… (all of the seat's roots in one cut). By AI agents, Wed Nov 11 2026. No macro, syntax, notation, axiom, sorry.
-/
import Derived.Test.YtbgikbenhglmkaaGreatChecked
import GoSem.Claim
import GoSem.ClaimJoined
import GoSem.ClaimMapViews
import Derived.JoinedTies
import Derived.KernelRfl
namespace Go.Proofs.YtbgikbenhglmkaaGreat
/- THE CELL 'sum', in the pinned program and in every row, IS THE sha256 OF THE DUMP (.gsa) THAT YtbgikbenhglmkaaGreatProg.lean LOADS. Nothing in Lean hashes anything: it is a label: what it is worth is what the hold of that sum in a sandbox is worth. -/
noncomputable def Tryz.pinned : Pinned := { name := "ytbgikbenhglmkaagreat", sum := "43697c311beaff104a0097f01d2dd7bf2341ee3622394e8c2ec50f5f3c444acf", checked := Tryz.checked }
namespace Rows
def none {H : Type} : Left H := { results := [], args := [] }

/-- 'moonpoollaw04.SonarShortest': WHATEVER THE INPUT: true; the input reads as it did. -/
def sonarShortestSpec : ChangeSpec := { name := "sonarShortest", fn := fun _ => fun
  | [d1, d2] => { results := [.lit (.bool true)], args := [d1, d2] }
  | _ => none }
def sonarShortestRow : OpenClaim := { program := "ytbgikbenhglmkaagreat", sum := "43697c311beaff104a0097f01d2dd7bf2341ee3622394e8c2ec50f5f3c444acf", func := "moonpool/moonpoollaw04.SonarShortest", spec := "sonarShortest", unfollowed := true, recurses := true, apart := false }
def SonarShortestSaid : Prop := sonarShortestRow.holds Tryz.pinned (OpenSpec.ofChange sonarShortestSpec)

/-- ITS FALSE NEIGHBOUR: 'it returns false'. Refute it at one input. -/
def sonarShortestWrong : ChangeSpec := { name := "sonarShortest", fn := fun _ => fun
  | [d1, d2] => { results := [.lit (.bool false)], args := [d1, d2] }
  | _ => none }
def SonarShortestWrongFalsely : Prop := sonarShortestRow.holds Tryz.pinned (OpenSpec.ofChange sonarShortestWrong)

/-- 'moonpoollaw04.SonarTurns': WHATEVER THE INPUT: true; the input reads as it did. -/
def sonarTurnsSpec : ChangeSpec := { name := "sonarTurns", fn := fun _ => fun
  | [d1, d2] => { results := [.lit (.bool true)], args := [d1, d2] }
  | _ => none }
def sonarTurnsRow : OpenClaim := { program := "ytbgikbenhglmkaagreat", sum := "43697c311beaff104a0097f01d2dd7bf2341ee3622394e8c2ec50f5f3c444acf", func := "moonpool/moonpoollaw04.SonarTurns", spec := "sonarTurns", unfollowed := true, recurses := true, apart := false }
def SonarTurnsSaid : Prop := sonarTurnsRow.holds Tryz.pinned (OpenSpec.ofChange sonarTurnsSpec)

/-- ITS FALSE NEIGHBOUR: 'it returns false'. Refute it at one input. -/
def sonarTurnsWrong : ChangeSpec := { name := "sonarTurns", fn := fun _ => fun
  | [d1, d2] => { results := [.lit (.bool false)], args := [d1, d2] }
  | _ => none }
def SonarTurnsWrongFalsely : Prop := sonarTurnsRow.holds Tryz.pinned (OpenSpec.ofChange sonarTurnsWrong)

/-- 'moonpoollaw04.SonarNoneBlind': WHATEVER THE INPUT: true; the input reads as it did. -/
def sonarNoneBlindSpec : ChangeSpec := { name := "sonarNoneBlind", fn := fun _ => fun
  | [d1, d2] => { results := [.lit (.bool true)], args := [d1, d2] }
  | _ => none }
def sonarNoneBlindRow : OpenClaim := { program := "ytbgikbenhglmkaagreat", sum := "43697c311beaff104a0097f01d2dd7bf2341ee3622394e8c2ec50f5f3c444acf", func := "moonpool/moonpoollaw04.SonarNoneBlind", spec := "sonarNoneBlind", unfollowed := true, recurses := true, apart := false }
def SonarNoneBlindSaid : Prop := sonarNoneBlindRow.holds Tryz.pinned (OpenSpec.ofChange sonarNoneBlindSpec)

/-- ITS FALSE NEIGHBOUR: 'it returns false'. Refute it at one input. -/
def sonarNoneBlindWrong : ChangeSpec := { name := "sonarNoneBlind", fn := fun _ => fun
  | [d1, d2] => { results := [.lit (.bool false)], args := [d1, d2] }
  | _ => none }
def SonarNoneBlindWrongFalsely : Prop := sonarNoneBlindRow.holds Tryz.pinned (OpenSpec.ofChange sonarNoneBlindWrong)

/-- 'moonpoollaw04.SonarDepths': WHATEVER THE INPUT: true; the input reads as it did. -/
def sonarDepthsSpec : ChangeSpec := { name := "sonarDepths", fn := fun _ => fun
  | [d1, d2, d3] => { results := [.lit (.bool true)], args := [d1, d2, d3] }
  | _ => none }
def sonarDepthsRow : OpenClaim := { program := "ytbgikbenhglmkaagreat", sum := "43697c311beaff104a0097f01d2dd7bf2341ee3622394e8c2ec50f5f3c444acf", func := "moonpool/moonpoollaw04.SonarDepths", spec := "sonarDepths", unfollowed := true, recurses := true, apart := false }
def SonarDepthsSaid : Prop := sonarDepthsRow.holds Tryz.pinned (OpenSpec.ofChange sonarDepthsSpec)

/-- ITS FALSE NEIGHBOUR: 'it returns false'. Refute it at one input. -/
def sonarDepthsWrong : ChangeSpec := { name := "sonarDepths", fn := fun _ => fun
  | [d1, d2, d3] => { results := [.lit (.bool false)], args := [d1, d2, d3] }
  | _ => none }
def SonarDepthsWrongFalsely : Prop := sonarDepthsRow.holds Tryz.pinned (OpenSpec.ofChange sonarDepthsWrong)

/-- 'moonpoollaw04.SonarCovers': WHATEVER THE INPUT: true; the input reads as it did. -/
def sonarCoversSpec : ChangeSpec := { name := "sonarCovers", fn := fun _ => fun
  | [d1, d2] => { results := [.lit (.bool true)], args := [d1, d2] }
  | _ => none }
def sonarCoversRow : OpenClaim := { program := "ytbgikbenhglmkaagreat", sum := "43697c311beaff104a0097f01d2dd7bf2341ee3622394e8c2ec50f5f3c444acf", func := "moonpool/moonpoollaw04.SonarCovers", spec := "sonarCovers", unfollowed := true, recurses := true, apart := false }
def SonarCoversSaid : Prop := sonarCoversRow.holds Tryz.pinned (OpenSpec.ofChange sonarCoversSpec)

/-- ITS FALSE NEIGHBOUR: 'it returns false'. Refute it at one input. -/
def sonarCoversWrong : ChangeSpec := { name := "sonarCovers", fn := fun _ => fun
  | [d1, d2] => { results := [.lit (.bool false)], args := [d1, d2] }
  | _ => none }
def SonarCoversWrongFalsely : Prop := sonarCoversRow.holds Tryz.pinned (OpenSpec.ofChange sonarCoversWrong)

/-- 'moonpoollaw04.SonarCheapest': WHATEVER THE INPUT: true; the input reads as it did. -/
def sonarCheapestSpec : ChangeSpec := { name := "sonarCheapest", fn := fun _ => fun
  | [d1, d2, d3] => { results := [.lit (.bool true)], args := [d1, d2, d3] }
  | _ => none }
def sonarCheapestRow : OpenClaim := { program := "ytbgikbenhglmkaagreat", sum := "43697c311beaff104a0097f01d2dd7bf2341ee3622394e8c2ec50f5f3c444acf", func := "moonpool/moonpoollaw04.SonarCheapest", spec := "sonarCheapest", unfollowed := true, recurses := true, apart := false }
def SonarCheapestSaid : Prop := sonarCheapestRow.holds Tryz.pinned (OpenSpec.ofChange sonarCheapestSpec)

/-- ITS FALSE NEIGHBOUR: 'it returns false'. Refute it at one input. -/
def sonarCheapestWrong : ChangeSpec := { name := "sonarCheapest", fn := fun _ => fun
  | [d1, d2, d3] => { results := [.lit (.bool false)], args := [d1, d2, d3] }
  | _ => none }
def SonarCheapestWrongFalsely : Prop := sonarCheapestRow.holds Tryz.pinned (OpenSpec.ofChange sonarCheapestWrong)

/-- 'moonpoollaw04.SonarScenes': WHATEVER THE INPUT: true; the input reads as it did. -/
def sonarScenesSpec : ChangeSpec := { name := "sonarScenes", fn := fun _ => fun
  | [d1, d2] => { results := [.lit (.bool true)], args := [d1, d2] }
  | _ => none }
def sonarScenesRow : OpenClaim := { program := "ytbgikbenhglmkaagreat", sum := "43697c311beaff104a0097f01d2dd7bf2341ee3622394e8c2ec50f5f3c444acf", func := "moonpool/moonpoollaw04.SonarScenes", spec := "sonarScenes", unfollowed := true, recurses := true, apart := false }
def SonarScenesSaid : Prop := sonarScenesRow.holds Tryz.pinned (OpenSpec.ofChange sonarScenesSpec)

/-- ITS FALSE NEIGHBOUR: 'it returns false'. Refute it at one input. -/
def sonarScenesWrong : ChangeSpec := { name := "sonarScenes", fn := fun _ => fun
  | [d1, d2] => { results := [.lit (.bool false)], args := [d1, d2] }
  | _ => none }
def SonarScenesWrongFalsely : Prop := sonarScenesRow.holds Tryz.pinned (OpenSpec.ofChange sonarScenesWrong)

/- THE SECOND FORM. 'bulk': how many values and letters a reading holds, each counted each time it is reached (what is shared counts as often as it is met; a slice's spare places count too). A statement '..UptoSaid' is the law's where the arguments, and the package variables that the reading takes, are together of bulk at most 1048576: NARROWER than '..Said'. Prove '..Said' where nothing that the law and all that it calls make is longer than what came in: it says more and counts as full. Else prove '..UptoSaid'. A law counts once. -/
mutual
def uptoBulk {H : Type} : DataW H → Nat
  | .lit (.string bytes) => bytes.length + 1
  | .lit _ => 1
  | .nil => 1
  | .ptr d => uptoBulk d + 1
  | .slice elems spare => uptoBulkAll elems + uptoBulkAll spare + 1
  | .agg parts => uptoBulkAll parts + 1
  | .iface _ d => uptoBulk d + 1
  | .map entries => uptoBulkEntries entries + 1
  | .held _ => 1
def uptoBulkAll {H : Type} : List (DataW H) → Nat
  | [] => 0
  | d :: r => uptoBulk d + uptoBulkAll r
def uptoBulkEntries {H : Type} : List (Lit × DataW H) → Nat
  | [] => 0
  | x :: r => uptoBulkEntry x + uptoBulkEntries r
def uptoBulkEntry {H : Type} : Lit × DataW H → Nat
  | (.string bytes, d) => bytes.length + uptoBulk d + 1
  | (_, d) => uptoBulk d + 1
 end
def uptoSmall : (H : Type) → List (DataW H) → Bool := fun _ ds => decide (uptoBulkAll ds ≤ 1048576)
def OpenSpec.upto (s : _root_.Go.ChangeSpec) : _root_.Go.OpenSpec := { _root_.Go.OpenSpec.ofChange s with cond := some uptoSmall }

/-- 'moonpoollaw04.SonarShortest', WHERE WHAT IT READS IS OF BULK AT MOST 1048576: true; the input reads as it did. -/
def sonarShortestUptoRow : OpenClaim := { program := "ytbgikbenhglmkaagreat", sum := "43697c311beaff104a0097f01d2dd7bf2341ee3622394e8c2ec50f5f3c444acf", func := "moonpool/moonpoollaw04.SonarShortest", spec := "sonarShortest", unfollowed := true, recurses := true, apart := false, narrowed := true }
def SonarShortestUptoSaid : Prop := sonarShortestUptoRow.holds Tryz.pinned (OpenSpec.upto sonarShortestSpec)

/-- 'moonpoollaw04.SonarTurns', WHERE WHAT IT READS IS OF BULK AT MOST 1048576: true; the input reads as it did. -/
def sonarTurnsUptoRow : OpenClaim := { program := "ytbgikbenhglmkaagreat", sum := "43697c311beaff104a0097f01d2dd7bf2341ee3622394e8c2ec50f5f3c444acf", func := "moonpool/moonpoollaw04.SonarTurns", spec := "sonarTurns", unfollowed := true, recurses := true, apart := false, narrowed := true }
def SonarTurnsUptoSaid : Prop := sonarTurnsUptoRow.holds Tryz.pinned (OpenSpec.upto sonarTurnsSpec)

/-- 'moonpoollaw04.SonarNoneBlind', WHERE WHAT IT READS IS OF BULK AT MOST 1048576: true; the input reads as it did. -/
def sonarNoneBlindUptoRow : OpenClaim := { program := "ytbgikbenhglmkaagreat", sum := "43697c311beaff104a0097f01d2dd7bf2341ee3622394e8c2ec50f5f3c444acf", func := "moonpool/moonpoollaw04.SonarNoneBlind", spec := "sonarNoneBlind", unfollowed := true, recurses := true, apart := false, narrowed := true }
def SonarNoneBlindUptoSaid : Prop := sonarNoneBlindUptoRow.holds Tryz.pinned (OpenSpec.upto sonarNoneBlindSpec)

/-- 'moonpoollaw04.SonarDepths', WHERE WHAT IT READS IS OF BULK AT MOST 1048576: true; the input reads as it did. -/
def sonarDepthsUptoRow : OpenClaim := { program := "ytbgikbenhglmkaagreat", sum := "43697c311beaff104a0097f01d2dd7bf2341ee3622394e8c2ec50f5f3c444acf", func := "moonpool/moonpoollaw04.SonarDepths", spec := "sonarDepths", unfollowed := true, recurses := true, apart := false, narrowed := true }
def SonarDepthsUptoSaid : Prop := sonarDepthsUptoRow.holds Tryz.pinned (OpenSpec.upto sonarDepthsSpec)

/-- 'moonpoollaw04.SonarCovers', WHERE WHAT IT READS IS OF BULK AT MOST 1048576: true; the input reads as it did. -/
def sonarCoversUptoRow : OpenClaim := { program := "ytbgikbenhglmkaagreat", sum := "43697c311beaff104a0097f01d2dd7bf2341ee3622394e8c2ec50f5f3c444acf", func := "moonpool/moonpoollaw04.SonarCovers", spec := "sonarCovers", unfollowed := true, recurses := true, apart := false, narrowed := true }
def SonarCoversUptoSaid : Prop := sonarCoversUptoRow.holds Tryz.pinned (OpenSpec.upto sonarCoversSpec)

/-- 'moonpoollaw04.SonarCheapest', WHERE WHAT IT READS IS OF BULK AT MOST 1048576: true; the input reads as it did. -/
def sonarCheapestUptoRow : OpenClaim := { program := "ytbgikbenhglmkaagreat", sum := "43697c311beaff104a0097f01d2dd7bf2341ee3622394e8c2ec50f5f3c444acf", func := "moonpool/moonpoollaw04.SonarCheapest", spec := "sonarCheapest", unfollowed := true, recurses := true, apart := false, narrowed := true }
def SonarCheapestUptoSaid : Prop := sonarCheapestUptoRow.holds Tryz.pinned (OpenSpec.upto sonarCheapestSpec)

/-- 'moonpoollaw04.SonarScenes', WHERE WHAT IT READS IS OF BULK AT MOST 1048576: true; the input reads as it did. -/
def sonarScenesUptoRow : OpenClaim := { program := "ytbgikbenhglmkaagreat", sum := "43697c311beaff104a0097f01d2dd7bf2341ee3622394e8c2ec50f5f3c444acf", func := "moonpool/moonpoollaw04.SonarScenes", spec := "sonarScenes", unfollowed := true, recurses := true, apart := false, narrowed := true }
def SonarScenesUptoSaid : Prop := sonarScenesUptoRow.holds Tryz.pinned (OpenSpec.upto sonarScenesSpec)

end Rows
end Go.Proofs.YtbgikbenhglmkaaGreat
