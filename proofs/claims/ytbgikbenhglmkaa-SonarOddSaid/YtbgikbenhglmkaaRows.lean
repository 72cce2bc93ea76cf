/-
  No cell of these rows narrows 'for every input' (looked for: loops, veiled, ifaces, maps, wideKeys, modest, calm, conditions, laid).
  DERIVED. THE GIVEN ROWS OF THIS SEAT. 5 by the template 'for every input the law returns true; each argument reads behind the call as it read before'; 0 by the template 'total and deterministic' (their statements: YtbgikbenhglmkaaTotals.lean).
  GIVEN WITH THE SEED: the statements are not yours to turn. If you find one false, say at which input.
  Laid BY PROGRAM, IN A SANDBOX (cutbox-rows.mjs): the forced cells as the released guide's own fill.sh prints them over the translation e459fd55704c4026… (all of the seat's roots in one cut). By AI agents, Wed Nov 11 2026. No macro, syntax, notation, axiom, sorry.
-/
import Derived.Test.YtbgikbenhglmkaaChecked
import GoSem.Claim
import GoSem.ClaimJoined
import GoSem.ClaimMapViews
import Derived.JoinedTies
import Derived.KernelRfl
namespace Go.Proofs.Ytbgikbenhglmkaa
/- THE CELL 'sum', in the pinned program and in every row, IS THE sha256 OF THE DUMP (.gsa) THAT YtbgikbenhglmkaaProg.lean LOADS. Nothing in Lean hashes anything: it is a label: what it is worth is what the hold of that sum in a sandbox is worth. -/
noncomputable def Try.pinned : Pinned := { name := "ytbgikbenhglmkaa", sum := "e459fd55704c40267da39fb0a16fd43322a21998bfdc9185c0a806943967d8c5", checked := Try.checked }
namespace Rows
def none {H : Type} : Left H := { results := [], args := [] }

/-- 'moonpoollaw04.SonarRays': WHATEVER THE INPUT: true; the input reads as it did. -/
def sonarRaysSpec : ChangeSpec := { name := "sonarRays", fn := fun _ => fun
  | [d] => { results := [.lit (.bool true)], args := [d] }
  | _ => none }
def sonarRaysRow : OpenClaim := { program := "ytbgikbenhglmkaa", sum := "e459fd55704c40267da39fb0a16fd43322a21998bfdc9185c0a806943967d8c5", func := "moonpool/moonpoollaw04.SonarRays", spec := "sonarRays", unfollowed := true, recurses := true, apart := false }
def SonarRaysSaid : Prop := sonarRaysRow.holds Try.pinned (OpenSpec.ofChange sonarRaysSpec)

/-- ITS FALSE NEIGHBOUR: 'it returns false'. Refute it at one input. -/
def sonarRaysWrong : ChangeSpec := { name := "sonarRays", fn := fun _ => fun
  | [d] => { results := [.lit (.bool false)], args := [d] }
  | _ => none }
def SonarRaysWrongFalsely : Prop := sonarRaysRow.holds Try.pinned (OpenSpec.ofChange sonarRaysWrong)

/-- 'moonpoollaw04.SonarEchoes': WHATEVER THE INPUT: true; the input reads as it did. -/
def sonarEchoesSpec : ChangeSpec := { name := "sonarEchoes", fn := fun _ => fun
  | [d1, d2, d3] => { results := [.lit (.bool true)], args := [d1, d2, d3] }
  | _ => none }
def sonarEchoesRow : OpenClaim := { program := "ytbgikbenhglmkaa", sum := "e459fd55704c40267da39fb0a16fd43322a21998bfdc9185c0a806943967d8c5", func := "moonpool/moonpoollaw04.SonarEchoes", spec := "sonarEchoes", unfollowed := true, recurses := true, apart := false }
def SonarEchoesSaid : Prop := sonarEchoesRow.holds Try.pinned (OpenSpec.ofChange sonarEchoesSpec)

/-- ITS FALSE NEIGHBOUR: 'it returns false'. Refute it at one input. -/
def sonarEchoesWrong : ChangeSpec := { name := "sonarEchoes", fn := fun _ => fun
  | [d1, d2, d3] => { results := [.lit (.bool false)], args := [d1, d2, d3] }
  | _ => none }
def SonarEchoesWrongFalsely : Prop := sonarEchoesRow.holds Try.pinned (OpenSpec.ofChange sonarEchoesWrong)

/-- 'moonpoollaw04.SonarMatches': WHATEVER THE INPUT: true; the input reads as it did. -/
def sonarMatchesSpec : ChangeSpec := { name := "sonarMatches", fn := fun _ => fun
  | [d1, d2, d3] => { results := [.lit (.bool true)], args := [d1, d2, d3] }
  | _ => none }
def sonarMatchesRow : OpenClaim := { program := "ytbgikbenhglmkaa", sum := "e459fd55704c40267da39fb0a16fd43322a21998bfdc9185c0a806943967d8c5", func := "moonpool/moonpoollaw04.SonarMatches", spec := "sonarMatches", unfollowed := true, recurses := true, apart := false }
def SonarMatchesSaid : Prop := sonarMatchesRow.holds Try.pinned (OpenSpec.ofChange sonarMatchesSpec)

/-- ITS FALSE NEIGHBOUR: 'it returns false'. Refute it at one input. -/
def sonarMatchesWrong : ChangeSpec := { name := "sonarMatches", fn := fun _ => fun
  | [d1, d2, d3] => { results := [.lit (.bool false)], args := [d1, d2, d3] }
  | _ => none }
def SonarMatchesWrongFalsely : Prop := sonarMatchesRow.holds Try.pinned (OpenSpec.ofChange sonarMatchesWrong)

/-- 'moonpoollaw04.SonarTimes': WHATEVER THE INPUT: true; the input reads as it did. -/
def sonarTimesSpec : ChangeSpec := { name := "sonarTimes", fn := fun _ => fun
  | [d1, d2, d3] => { results := [.lit (.bool true)], args := [d1, d2, d3] }
  | _ => none }
def sonarTimesRow : OpenClaim := { program := "ytbgikbenhglmkaa", sum := "e459fd55704c40267da39fb0a16fd43322a21998bfdc9185c0a806943967d8c5", func := "moonpool/moonpoollaw04.SonarTimes", spec := "sonarTimes", unfollowed := true, recurses := true, apart := false }
def SonarTimesSaid : Prop := sonarTimesRow.holds Try.pinned (OpenSpec.ofChange sonarTimesSpec)

/-- ITS FALSE NEIGHBOUR: 'it returns false'. Refute it at one input. -/
def sonarTimesWrong : ChangeSpec := { name := "sonarTimes", fn := fun _ => fun
  | [d1, d2, d3] => { results := [.lit (.bool false)], args := [d1, d2, d3] }
  | _ => none }
def SonarTimesWrongFalsely : Prop := sonarTimesRow.holds Try.pinned (OpenSpec.ofChange sonarTimesWrong)

/-- 'moonpoollaw04.SonarOdd': WHATEVER THE INPUT: true; the input reads as it did. -/
def sonarOddSpec : ChangeSpec := { name := "sonarOdd", fn := fun _ => fun
  | [d1, d2] => { results := [.lit (.bool true)], args := [d1, d2] }
  | _ => none }
def sonarOddRow : OpenClaim := { program := "ytbgikbenhglmkaa", sum := "e459fd55704c40267da39fb0a16fd43322a21998bfdc9185c0a806943967d8c5", func := "moonpool/moonpoollaw04.SonarOdd", spec := "sonarOdd", unfollowed := true, recurses := true, apart := false }
def SonarOddSaid : Prop := sonarOddRow.holds Try.pinned (OpenSpec.ofChange sonarOddSpec)

/-- ITS FALSE NEIGHBOUR: 'it returns false'. Refute it at one input. -/
def sonarOddWrong : ChangeSpec := { name := "sonarOdd", fn := fun _ => fun
  | [d1, d2] => { results := [.lit (.bool false)], args := [d1, d2] }
  | _ => none }
def SonarOddWrongFalsely : Prop := sonarOddRow.holds Try.pinned (OpenSpec.ofChange sonarOddWrong)

/- THE SECOND FORM. 'bulk': how many values and letters a reading holds, each counted each time it is reached (what is shared counts as often as it is met; a slice's spare places count too). A statement '..UptoSaid' is the law's where the arguments, and the package variables that the reading takes, are together of bulk at most 1048576: NARROWER than '..Said'. Prove '..Said' where nothing that the law and all that it calls make is longer than what came in: it says more and counts as full. Else prove '..UptoSaid'. A law counts once. -/
mutual
def uptoBulk {H : Type} : DataW H → Nat
  | .lit (.string bytes) => bytes.length + 1
  | .lit _ => 1
  | .nil => 1
  | .ptr d => uptoBulk d + 1
  | .slice elems spare => uptoBulkAll elems + uptoBulkAll spare + 1
  | .agg parts => uptoBulkAll parts + 1
  | .iface _ d => uptoBulk d + 1
  | .map entries => uptoBulkEntries entries + 1
  | .held _ => 1
def uptoBulkAll {H : Type} : List (DataW H) → Nat
  | [] => 0
  | d :: r => uptoBulk d + uptoBulkAll r
def uptoBulkEntries {H : Type} : List (Lit × DataW H) → Nat
  | [] => 0
  | x :: r => uptoBulkEntry x + uptoBulkEntries r
def uptoBulkEntry {H : Type} : Lit × DataW H → Nat
  | (.string bytes, d) => bytes.length + uptoBulk d + 1
  | (_, d) => uptoBulk d + 1
 end
def uptoSmall : (H : Type) → List (DataW H) → Bool := fun _ ds => decide (uptoBulkAll ds ≤ 1048576)
def OpenSpec.upto (s : _root_.Go.ChangeSpec) : _root_.Go.OpenSpec := { _root_.Go.OpenSpec.ofChange s with cond := some uptoSmall }

/-- 'moonpoollaw04.SonarRays', WHERE WHAT IT READS IS OF BULK AT MOST 1048576: true; the input reads as it did. -/
def sonarRaysUptoRow : OpenClaim := { program := "ytbgikbenhglmkaa", sum := "e459fd55704c40267da39fb0a16fd43322a21998bfdc9185c0a806943967d8c5", func := "moonpool/moonpoollaw04.SonarRays", spec := "sonarRays", unfollowed := true, recurses := true, apart := false, narrowed := true }
def SonarRaysUptoSaid : Prop := sonarRaysUptoRow.holds Try.pinned (OpenSpec.upto sonarRaysSpec)

/-- 'moonpoollaw04.SonarEchoes', WHERE WHAT IT READS IS OF BULK AT MOST 1048576: true; the input reads as it did. -/
def sonarEchoesUptoRow : OpenClaim := { program := "ytbgikbenhglmkaa", sum := "e459fd55704c40267da39fb0a16fd43322a21998bfdc9185c0a806943967d8c5", func := "moonpool/moonpoollaw04.SonarEchoes", spec := "sonarEchoes", unfollowed := true, recurses := true, apart := false, narrowed := true }
def SonarEchoesUptoSaid : Prop := sonarEchoesUptoRow.holds Try.pinned (OpenSpec.upto sonarEchoesSpec)

/-- 'moonpoollaw04.SonarMatches', WHERE WHAT IT READS IS OF BULK AT MOST 1048576: true; the input reads as it did. -/
def sonarMatchesUptoRow : OpenClaim := { program := "ytbgikbenhglmkaa", sum := "e459fd55704c40267da39fb0a16fd43322a21998bfdc9185c0a806943967d8c5", func := "moonpool/moonpoollaw04.SonarMatches", spec := "sonarMatches", unfollowed := true, recurses := true, apart := false, narrowed := true }
def SonarMatchesUptoSaid : Prop := sonarMatchesUptoRow.holds Try.pinned (OpenSpec.upto sonarMatchesSpec)

/-- 'moonpoollaw04.SonarTimes', WHERE WHAT IT READS IS OF BULK AT MOST 1048576: true; the input reads as it did. -/
def sonarTimesUptoRow : OpenClaim := { program := "ytbgikbenhglmkaa", sum := "e459fd55704c40267da39fb0a16fd43322a21998bfdc9185c0a806943967d8c5", func := "moonpool/moonpoollaw04.SonarTimes", spec := "sonarTimes", unfollowed := true, recurses := true, apart := false, narrowed := true }
def SonarTimesUptoSaid : Prop := sonarTimesUptoRow.holds Try.pinned (OpenSpec.upto sonarTimesSpec)

/-- 'moonpoollaw04.SonarOdd', WHERE WHAT IT READS IS OF BULK AT MOST 1048576: true; the input reads as it did. -/
def sonarOddUptoRow : OpenClaim := { program := "ytbgikbenhglmkaa", sum := "e459fd55704c40267da39fb0a16fd43322a21998bfdc9185c0a806943967d8c5", func := "moonpool/moonpoollaw04.SonarOdd", spec := "sonarOdd", unfollowed := true, recurses := true, apart := false, narrowed := true }
def SonarOddUptoSaid : Prop := sonarOddUptoRow.holds Try.pinned (OpenSpec.upto sonarOddSpec)

end Rows
end Go.Proofs.Ytbgikbenhglmkaa
