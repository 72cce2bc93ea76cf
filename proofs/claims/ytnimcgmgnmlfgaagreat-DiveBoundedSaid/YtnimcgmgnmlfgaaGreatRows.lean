/-
  No cell of these rows narrows 'for every input' (looked for: loops, veiled, ifaces, maps, wideKeys, modest, calm, conditions, laid).
  DERIVED. THE GIVEN ROWS OF THIS SEAT. 5 by the template 'for every input the law returns true; each argument reads behind the call as it read before'; 0 by the template 'total and deterministic' (their statements: YtnimcgmgnmlfgaaGreatTotals.lean).
  GIVEN WITH THE SEED: the statements are not yours to turn. If you find one false, say at which input.
  Laid BY PROGRAM, IN A SANDBOX (cutbox-rows.mjs): the forced cells as the released guide's own fill.sh prints them over the translation d5faa9d7bc203cd9… (all of the seat's roots in one cut). By AI agents, Wed Nov 11 2026. No macro, syntax, notation, axiom, sorry.
-/
import Derived.Test.YtnimcgmgnmlfgaaGreatChecked
import GoSem.Claim
import GoSem.ClaimJoined
import GoSem.ClaimMapViews
import Derived.JoinedTies
import Derived.KernelRfl
namespace Go.Proofs.YtnimcgmgnmlfgaaGreat
/- THE CELL 'sum', in the pinned program and in every row, IS THE sha256 OF THE DUMP (.gsa) THAT YtnimcgmgnmlfgaaGreatProg.lean LOADS. Nothing in Lean hashes anything: it is a label: what it is worth is what the hold of that sum in a sandbox is worth. -/
noncomputable def Tryz.pinned : Pinned := { name := "ytnimcgmgnmlfgaagreat", sum := "d5faa9d7bc203cd90e15b27a9030b6e4d91c3c82e02c3ddaf8bc50f7a79ee91a", checked := Tryz.checked }
namespace Rows
def none {H : Type} : Left H := { results := [], args := [] }

/-- 'moonpoollaw08.DiveClashes': WHATEVER THE INPUT: true; the input reads as it did. -/
def diveClashesSpec : ChangeSpec := { name := "diveClashes", fn := fun _ => fun
  | [d1, d2, d3] => { results := [.lit (.bool true)], args := [d1, d2, d3] }
  | _ => none }
def diveClashesRow : OpenClaim := { program := "ytnimcgmgnmlfgaagreat", sum := "d5faa9d7bc203cd90e15b27a9030b6e4d91c3c82e02c3ddaf8bc50f7a79ee91a", func := "moonpool/moonpoollaw08.DiveClashes", spec := "diveClashes", inPlace := ["slices.overlaps[int]"], unfollowed := true, recurses := true, apart := false }
def DiveClashesSaid : Prop := diveClashesRow.holds Tryz.pinned (OpenSpec.ofChange diveClashesSpec)

/-- ITS FALSE NEIGHBOUR: 'it returns false'. Refute it at one input. -/
def diveClashesWrong : ChangeSpec := { name := "diveClashes", fn := fun _ => fun
  | [d1, d2, d3] => { results := [.lit (.bool false)], args := [d1, d2, d3] }
  | _ => none }
def DiveClashesWrongFalsely : Prop := diveClashesRow.holds Tryz.pinned (OpenSpec.ofChange diveClashesWrong)

/-- 'moonpoollaw08.DivePlans': WHATEVER THE INPUT: true; the input reads as it did. -/
def divePlansSpec : ChangeSpec := { name := "divePlans", fn := fun _ => fun
  | [d1, d2, d3] => { results := [.lit (.bool true)], args := [d1, d2, d3] }
  | _ => none }
def divePlansRow : OpenClaim := { program := "ytnimcgmgnmlfgaagreat", sum := "d5faa9d7bc203cd90e15b27a9030b6e4d91c3c82e02c3ddaf8bc50f7a79ee91a", func := "moonpool/moonpoollaw08.DivePlans", spec := "divePlans", inPlace := ["slices.overlaps[int]"], unfollowed := true, recurses := true, apart := false }
def DivePlansSaid : Prop := divePlansRow.holds Tryz.pinned (OpenSpec.ofChange divePlansSpec)

/-- ITS FALSE NEIGHBOUR: 'it returns false'. Refute it at one input. -/
def divePlansWrong : ChangeSpec := { name := "divePlans", fn := fun _ => fun
  | [d1, d2, d3] => { results := [.lit (.bool false)], args := [d1, d2, d3] }
  | _ => none }
def DivePlansWrongFalsely : Prop := divePlansRow.holds Tryz.pinned (OpenSpec.ofChange divePlansWrong)

/-- 'moonpoollaw08.DiveSteps': WHATEVER THE INPUT: true; the input reads as it did. -/
def diveStepsSpec : ChangeSpec := { name := "diveSteps", fn := fun _ => fun
  | [d1, d2, d3] => { results := [.lit (.bool true)], args := [d1, d2, d3] }
  | _ => none }
def diveStepsRow : OpenClaim := { program := "ytnimcgmgnmlfgaagreat", sum := "d5faa9d7bc203cd90e15b27a9030b6e4d91c3c82e02c3ddaf8bc50f7a79ee91a", func := "moonpool/moonpoollaw08.DiveSteps", spec := "diveSteps", inPlace := ["slices.overlaps[int]"], unfollowed := true, recurses := true, apart := false }
def DiveStepsSaid : Prop := diveStepsRow.holds Tryz.pinned (OpenSpec.ofChange diveStepsSpec)

/-- ITS FALSE NEIGHBOUR: 'it returns false'. Refute it at one input. -/
def diveStepsWrong : ChangeSpec := { name := "diveSteps", fn := fun _ => fun
  | [d1, d2, d3] => { results := [.lit (.bool false)], args := [d1, d2, d3] }
  | _ => none }
def DiveStepsWrongFalsely : Prop := diveStepsRow.holds Tryz.pinned (OpenSpec.ofChange diveStepsWrong)

/-- 'moonpoollaw08.DivePrices': WHATEVER THE INPUT: true; the input reads as it did. -/
def divePricesSpec : ChangeSpec := { name := "divePrices", fn := fun _ => fun
  | [d1, d2, d3] => { results := [.lit (.bool true)], args := [d1, d2, d3] }
  | _ => none }
def divePricesRow : OpenClaim := { program := "ytnimcgmgnmlfgaagreat", sum := "d5faa9d7bc203cd90e15b27a9030b6e4d91c3c82e02c3ddaf8bc50f7a79ee91a", func := "moonpool/moonpoollaw08.DivePrices", spec := "divePrices", inPlace := ["slices.overlaps[int]"], unfollowed := true, recurses := true, apart := false }
def DivePricesSaid : Prop := divePricesRow.holds Tryz.pinned (OpenSpec.ofChange divePricesSpec)

/-- ITS FALSE NEIGHBOUR: 'it returns false'. Refute it at one input. -/
def divePricesWrong : ChangeSpec := { name := "divePrices", fn := fun _ => fun
  | [d1, d2, d3] => { results := [.lit (.bool false)], args := [d1, d2, d3] }
  | _ => none }
def DivePricesWrongFalsely : Prop := divePricesRow.holds Tryz.pinned (OpenSpec.ofChange divePricesWrong)

/-- 'moonpoollaw08.DiveBounded': WHATEVER THE INPUT: true; the input reads as it did. -/
def diveBoundedSpec : ChangeSpec := { name := "diveBounded", fn := fun _ => fun
  | [d1, d2, d3] => { results := [.lit (.bool true)], args := [d1, d2, d3] }
  | _ => none }
def diveBoundedRow : OpenClaim := { program := "ytnimcgmgnmlfgaagreat", sum := "d5faa9d7bc203cd90e15b27a9030b6e4d91c3c82e02c3ddaf8bc50f7a79ee91a", func := "moonpool/moonpoollaw08.DiveBounded", spec := "diveBounded", inPlace := ["slices.overlaps[int]"], unfollowed := true, recurses := true, apart := false }
def DiveBoundedSaid : Prop := diveBoundedRow.holds Tryz.pinned (OpenSpec.ofChange diveBoundedSpec)

/-- ITS FALSE NEIGHBOUR: 'it returns false'. Refute it at one input. -/
def diveBoundedWrong : ChangeSpec := { name := "diveBounded", fn := fun _ => fun
  | [d1, d2, d3] => { results := [.lit (.bool false)], args := [d1, d2, d3] }
  | _ => none }
def DiveBoundedWrongFalsely : Prop := diveBoundedRow.holds Tryz.pinned (OpenSpec.ofChange diveBoundedWrong)

/- THE SECOND FORM. 'bulk': how many values and letters a reading holds, each counted each time it is reached (what is shared counts as often as it is met; a slice's spare places count too). A statement '..UptoSaid' is the law's where the arguments, and the package variables that the reading takes, are together of bulk at most 1048576: NARROWER than '..Said'. Prove '..Said' where nothing that the law and all that it calls make is longer than what came in: it says more and counts as full. Else prove '..UptoSaid'. A law counts once. -/
mutual
def uptoBulk {H : Type} : DataW H → Nat
  | .lit (.string bytes) => bytes.length + 1
  | .lit _ => 1
  | .nil => 1
  | .ptr d => uptoBulk d + 1
  | .slice elems spare => uptoBulkAll elems + uptoBulkAll spare + 1
  | .agg parts => uptoBulkAll parts + 1
  | .iface _ d => uptoBulk d + 1
  | .map entries => uptoBulkEntries entries + 1
  | .held _ => 1
def uptoBulkAll {H : Type} : List (DataW H) → Nat
  | [] => 0
  | d :: r => uptoBulk d + uptoBulkAll r
def uptoBulkEntries {H : Type} : List (Lit × DataW H) → Nat
  | [] => 0
  | x :: r => uptoBulkEntry x + uptoBulkEntries r
def uptoBulkEntry {H : Type} : Lit × DataW H → Nat
  | (.string bytes, d) => bytes.length + uptoBulk d + 1
  | (_, d) => uptoBulk d + 1
 end
def uptoSmall : (H : Type) → List (DataW H) → Bool := fun _ ds => decide (uptoBulkAll ds ≤ 1048576)
def OpenSpec.upto (s : _root_.Go.ChangeSpec) : _root_.Go.OpenSpec := { _root_.Go.OpenSpec.ofChange s with cond := some uptoSmall }

/-- 'moonpoollaw08.DiveClashes', WHERE WHAT IT READS IS OF BULK AT MOST 1048576: true; the input reads as it did. -/
def diveClashesUptoRow : OpenClaim := { program := "ytnimcgmgnmlfgaagreat", sum := "d5faa9d7bc203cd90e15b27a9030b6e4d91c3c82e02c3ddaf8bc50f7a79ee91a", func := "moonpool/moonpoollaw08.DiveClashes", spec := "diveClashes", inPlace := ["slices.overlaps[int]"], unfollowed := true, recurses := true, apart := false, narrowed := true }
def DiveClashesUptoSaid : Prop := diveClashesUptoRow.holds Tryz.pinned (OpenSpec.upto diveClashesSpec)

/-- 'moonpoollaw08.DivePlans', WHERE WHAT IT READS IS OF BULK AT MOST 1048576: true; the input reads as it did. -/
def divePlansUptoRow : OpenClaim := { program := "ytnimcgmgnmlfgaagreat", sum := "d5faa9d7bc203cd90e15b27a9030b6e4d91c3c82e02c3ddaf8bc50f7a79ee91a", func := "moonpool/moonpoollaw08.DivePlans", spec := "divePlans", inPlace := ["slices.overlaps[int]"], unfollowed := true, recurses := true, apart := false, narrowed := true }
def DivePlansUptoSaid : Prop := divePlansUptoRow.holds Tryz.pinned (OpenSpec.upto divePlansSpec)

/-- 'moonpoollaw08.DiveSteps', WHERE WHAT IT READS IS OF BULK AT MOST 1048576: true; the input reads as it did. -/
def diveStepsUptoRow : OpenClaim := { program := "ytnimcgmgnmlfgaagreat", sum := "d5faa9d7bc203cd90e15b27a9030b6e4d91c3c82e02c3ddaf8bc50f7a79ee91a", func := "moonpool/moonpoollaw08.DiveSteps", spec := "diveSteps", inPlace := ["slices.overlaps[int]"], unfollowed := true, recurses := true, apart := false, narrowed := true }
def DiveStepsUptoSaid : Prop := diveStepsUptoRow.holds Tryz.pinned (OpenSpec.upto diveStepsSpec)

/-- 'moonpoollaw08.DivePrices', WHERE WHAT IT READS IS OF BULK AT MOST 1048576: true; the input reads as it did. -/
def divePricesUptoRow : OpenClaim := { program := "ytnimcgmgnmlfgaagreat", sum := "d5faa9d7bc203cd90e15b27a9030b6e4d91c3c82e02c3ddaf8bc50f7a79ee91a", func := "moonpool/moonpoollaw08.DivePrices", spec := "divePrices", inPlace := ["slices.overlaps[int]"], unfollowed := true, recurses := true, apart := false, narrowed := true }
def DivePricesUptoSaid : Prop := divePricesUptoRow.holds Tryz.pinned (OpenSpec.upto divePricesSpec)

/-- 'moonpoollaw08.DiveBounded', WHERE WHAT IT READS IS OF BULK AT MOST 1048576: true; the input reads as it did. -/
def diveBoundedUptoRow : OpenClaim := { program := "ytnimcgmgnmlfgaagreat", sum := "d5faa9d7bc203cd90e15b27a9030b6e4d91c3c82e02c3ddaf8bc50f7a79ee91a", func := "moonpool/moonpoollaw08.DiveBounded", spec := "diveBounded", inPlace := ["slices.overlaps[int]"], unfollowed := true, recurses := true, apart := false, narrowed := true }
def DiveBoundedUptoSaid : Prop := diveBoundedUptoRow.holds Tryz.pinned (OpenSpec.upto diveBoundedSpec)

end Rows
end Go.Proofs.YtnimcgmgnmlfgaaGreat
