/-
  No cell of these rows narrows 'for every input' (looked for: loops, veiled, ifaces, maps, wideKeys, modest, calm, conditions, laid).
  DERIVED. THE GIVEN ROWS OF THIS SEAT. 6 by the template 'for every input the law returns true; each argument reads behind the call as it read before'; 0 by the template 'total and deterministic' (their statements: YtnimcgmgnmlfgaaTotals.lean).
  GIVEN WITH THE SEED: the statements are not yours to turn. If you find one false, say at which input.
  Laid BY PROGRAM, IN A SANDBOX (cutbox-rows.mjs): the forced cells as the released guide's own fill.sh prints them over the translation 57a6834ee7a6e051… (all of the seat's roots in one cut). By AI agents, Wed Nov 11 2026. No macro, syntax, notation, axiom, sorry.
-/
import Derived.Test.YtnimcgmgnmlfgaaChecked
import GoSem.Claim
import GoSem.ClaimJoined
import GoSem.ClaimMapViews
import Derived.JoinedTies
import Derived.KernelRfl
namespace Go.Proofs.Ytnimcgmgnmlfgaa
/- THE CELL 'sum', in the pinned program and in every row, IS THE sha256 OF THE DUMP (.gsa) THAT YtnimcgmgnmlfgaaProg.lean LOADS. Nothing in Lean hashes anything: it is a label: what it is worth is what the hold of that sum in a sandbox is worth. -/
noncomputable def Try.pinned : Pinned := { name := "ytnimcgmgnmlfgaa", sum := "57a6834ee7a6e0517ceaf886ebcf73198f586f57b116107f64f75bc34a3b99e0", checked := Try.checked }
namespace Rows
def none {H : Type} : Left H := { results := [], args := [] }

/-- 'moonpoollaw08.DiveSites': WHATEVER THE INPUT: true; the input reads as it did. -/
def diveSitesSpec : ChangeSpec := { name := "diveSites", fn := fun _ => fun
  | [d1, d2] => { results := [.lit (.bool true)], args := [d1, d2] }
  | _ => none }
def diveSitesRow : OpenClaim := { program := "ytnimcgmgnmlfgaa", sum := "57a6834ee7a6e0517ceaf886ebcf73198f586f57b116107f64f75bc34a3b99e0", func := "moonpool/moonpoollaw08.DiveSites", spec := "diveSites", inPlace := ["slices.overlaps[int]"], unfollowed := true, recurses := true, apart := false }
def DiveSitesSaid : Prop := diveSitesRow.holds Try.pinned (OpenSpec.ofChange diveSitesSpec)

/-- ITS FALSE NEIGHBOUR: 'it returns false'. Refute it at one input. -/
def diveSitesWrong : ChangeSpec := { name := "diveSites", fn := fun _ => fun
  | [d1, d2] => { results := [.lit (.bool false)], args := [d1, d2] }
  | _ => none }
def DiveSitesWrongFalsely : Prop := diveSitesRow.holds Try.pinned (OpenSpec.ofChange diveSitesWrong)

/-- 'moonpoollaw08.DiveLast': WHATEVER THE INPUT: true; the input reads as it did. -/
def diveLastSpec : ChangeSpec := { name := "diveLast", fn := fun _ => fun
  | [d1, d2, d3] => { results := [.lit (.bool true)], args := [d1, d2, d3] }
  | _ => none }
def diveLastRow : OpenClaim := { program := "ytnimcgmgnmlfgaa", sum := "57a6834ee7a6e0517ceaf886ebcf73198f586f57b116107f64f75bc34a3b99e0", func := "moonpool/moonpoollaw08.DiveLast", spec := "diveLast", inPlace := ["slices.overlaps[int]"], unfollowed := true, recurses := true, apart := false }
def DiveLastSaid : Prop := diveLastRow.holds Try.pinned (OpenSpec.ofChange diveLastSpec)

/-- ITS FALSE NEIGHBOUR: 'it returns false'. Refute it at one input. -/
def diveLastWrong : ChangeSpec := { name := "diveLast", fn := fun _ => fun
  | [d1, d2, d3] => { results := [.lit (.bool false)], args := [d1, d2, d3] }
  | _ => none }
def DiveLastWrongFalsely : Prop := diveLastRow.holds Try.pinned (OpenSpec.ofChange diveLastWrong)

/-- 'moonpoollaw08.DiveReturns': WHATEVER THE INPUT: true; the input reads as it did. -/
def diveReturnsSpec : ChangeSpec := { name := "diveReturns", fn := fun _ => fun
  | [d1, d2] => { results := [.lit (.bool true)], args := [d1, d2] }
  | _ => none }
def diveReturnsRow : OpenClaim := { program := "ytnimcgmgnmlfgaa", sum := "57a6834ee7a6e0517ceaf886ebcf73198f586f57b116107f64f75bc34a3b99e0", func := "moonpool/moonpoollaw08.DiveReturns", spec := "diveReturns", inPlace := ["slices.overlaps[int]"], unfollowed := true, recurses := true, apart := false }
def DiveReturnsSaid : Prop := diveReturnsRow.holds Try.pinned (OpenSpec.ofChange diveReturnsSpec)

/-- ITS FALSE NEIGHBOUR: 'it returns false'. Refute it at one input. -/
def diveReturnsWrong : ChangeSpec := { name := "diveReturns", fn := fun _ => fun
  | [d1, d2] => { results := [.lit (.bool false)], args := [d1, d2] }
  | _ => none }
def DiveReturnsWrongFalsely : Prop := diveReturnsRow.holds Try.pinned (OpenSpec.ofChange diveReturnsWrong)

/-- 'moonpoollaw08.DiveApart': WHATEVER THE INPUT: true; the input reads as it did. -/
def diveApartSpec : ChangeSpec := { name := "diveApart", fn := fun _ => fun
  | [d1, d2, d3] => { results := [.lit (.bool true)], args := [d1, d2, d3] }
  | _ => none }
def diveApartRow : OpenClaim := { program := "ytnimcgmgnmlfgaa", sum := "57a6834ee7a6e0517ceaf886ebcf73198f586f57b116107f64f75bc34a3b99e0", func := "moonpool/moonpoollaw08.DiveApart", spec := "diveApart", inPlace := ["slices.overlaps[int]"], unfollowed := true, recurses := true, apart := false }
def DiveApartSaid : Prop := diveApartRow.holds Try.pinned (OpenSpec.ofChange diveApartSpec)

/-- ITS FALSE NEIGHBOUR: 'it returns false'. Refute it at one input. -/
def diveApartWrong : ChangeSpec := { name := "diveApart", fn := fun _ => fun
  | [d1, d2, d3] => { results := [.lit (.bool false)], args := [d1, d2, d3] }
  | _ => none }
def DiveApartWrongFalsely : Prop := diveApartRow.holds Try.pinned (OpenSpec.ofChange diveApartWrong)

/-- 'moonpoollaw08.DiveWatches': WHATEVER THE INPUT: true; the input reads as it did. -/
def diveWatchesSpec : ChangeSpec := { name := "diveWatches", fn := fun _ => fun
  | [d1, d2] => { results := [.lit (.bool true)], args := [d1, d2] }
  | _ => none }
def diveWatchesRow : OpenClaim := { program := "ytnimcgmgnmlfgaa", sum := "57a6834ee7a6e0517ceaf886ebcf73198f586f57b116107f64f75bc34a3b99e0", func := "moonpool/moonpoollaw08.DiveWatches", spec := "diveWatches", inPlace := ["slices.overlaps[int]"], unfollowed := true, recurses := true, apart := false }
def DiveWatchesSaid : Prop := diveWatchesRow.holds Try.pinned (OpenSpec.ofChange diveWatchesSpec)

/-- ITS FALSE NEIGHBOUR: 'it returns false'. Refute it at one input. -/
def diveWatchesWrong : ChangeSpec := { name := "diveWatches", fn := fun _ => fun
  | [d1, d2] => { results := [.lit (.bool false)], args := [d1, d2] }
  | _ => none }
def DiveWatchesWrongFalsely : Prop := diveWatchesRow.holds Try.pinned (OpenSpec.ofChange diveWatchesWrong)

/-- 'moonpoollaw08.DiveBack': WHATEVER THE INPUT: true; the input reads as it did. -/
def diveBackSpec : ChangeSpec := { name := "diveBack", fn := fun _ => fun
  | [d1, d2, d3] => { results := [.lit (.bool true)], args := [d1, d2, d3] }
  | _ => none }
def diveBackRow : OpenClaim := { program := "ytnimcgmgnmlfgaa", sum := "57a6834ee7a6e0517ceaf886ebcf73198f586f57b116107f64f75bc34a3b99e0", func := "moonpool/moonpoollaw08.DiveBack", spec := "diveBack", inPlace := ["slices.overlaps[int]"], unfollowed := true, recurses := true, apart := false }
def DiveBackSaid : Prop := diveBackRow.holds Try.pinned (OpenSpec.ofChange diveBackSpec)

/-- ITS FALSE NEIGHBOUR: 'it returns false'. Refute it at one input. -/
def diveBackWrong : ChangeSpec := { name := "diveBack", fn := fun _ => fun
  | [d1, d2, d3] => { results := [.lit (.bool false)], args := [d1, d2, d3] }
  | _ => none }
def DiveBackWrongFalsely : Prop := diveBackRow.holds Try.pinned (OpenSpec.ofChange diveBackWrong)

/- THE SECOND FORM. 'bulk': how many values and letters a reading holds, each counted each time it is reached (what is shared counts as often as it is met; a slice's spare places count too). A statement '..UptoSaid' is the law's where the arguments, and the package variables that the reading takes, are together of bulk at most 1048576: NARROWER than '..Said'. Prove '..Said' where nothing that the law and all that it calls make is longer than what came in: it says more and counts as full. Else prove '..UptoSaid'. A law counts once. -/
mutual
def uptoBulk {H : Type} : DataW H → Nat
  | .lit (.string bytes) => bytes.length + 1
  | .lit _ => 1
  | .nil => 1
  | .ptr d => uptoBulk d + 1
  | .slice elems spare => uptoBulkAll elems + uptoBulkAll spare + 1
  | .agg parts => uptoBulkAll parts + 1
  | .iface _ d => uptoBulk d + 1
  | .map entries => uptoBulkEntries entries + 1
  | .held _ => 1
def uptoBulkAll {H : Type} : List (DataW H) → Nat
  | [] => 0
  | d :: r => uptoBulk d + uptoBulkAll r
def uptoBulkEntries {H : Type} : List (Lit × DataW H) → Nat
  | [] => 0
  | x :: r => uptoBulkEntry x + uptoBulkEntries r
def uptoBulkEntry {H : Type} : Lit × DataW H → Nat
  | (.string bytes, d) => bytes.length + uptoBulk d + 1
  | (_, d) => uptoBulk d + 1
 end
def uptoSmall : (H : Type) → List (DataW H) → Bool := fun _ ds => decide (uptoBulkAll ds ≤ 1048576)
def OpenSpec.upto (s : _root_.Go.ChangeSpec) : _root_.Go.OpenSpec := { _root_.Go.OpenSpec.ofChange s with cond := some uptoSmall }

/-- 'moonpoollaw08.DiveSites', WHERE WHAT IT READS IS OF BULK AT MOST 1048576: true; the input reads as it did. -/
def diveSitesUptoRow : OpenClaim := { program := "ytnimcgmgnmlfgaa", sum := "57a6834ee7a6e0517ceaf886ebcf73198f586f57b116107f64f75bc34a3b99e0", func := "moonpool/moonpoollaw08.DiveSites", spec := "diveSites", inPlace := ["slices.overlaps[int]"], unfollowed := true, recurses := true, apart := false, narrowed := true }
def DiveSitesUptoSaid : Prop := diveSitesUptoRow.holds Try.pinned (OpenSpec.upto diveSitesSpec)

/-- 'moonpoollaw08.DiveLast', WHERE WHAT IT READS IS OF BULK AT MOST 1048576: true; the input reads as it did. -/
def diveLastUptoRow : OpenClaim := { program := "ytnimcgmgnmlfgaa", sum := "57a6834ee7a6e0517ceaf886ebcf73198f586f57b116107f64f75bc34a3b99e0", func := "moonpool/moonpoollaw08.DiveLast", spec := "diveLast", inPlace := ["slices.overlaps[int]"], unfollowed := true, recurses := true, apart := false, narrowed := true }
def DiveLastUptoSaid : Prop := diveLastUptoRow.holds Try.pinned (OpenSpec.upto diveLastSpec)

/-- 'moonpoollaw08.DiveReturns', WHERE WHAT IT READS IS OF BULK AT MOST 1048576: true; the input reads as it did. -/
def diveReturnsUptoRow : OpenClaim := { program := "ytnimcgmgnmlfgaa", sum := "57a6834ee7a6e0517ceaf886ebcf73198f586f57b116107f64f75bc34a3b99e0", func := "moonpool/moonpoollaw08.DiveReturns", spec := "diveReturns", inPlace := ["slices.overlaps[int]"], unfollowed := true, recurses := true, apart := false, narrowed := true }
def DiveReturnsUptoSaid : Prop := diveReturnsUptoRow.holds Try.pinned (OpenSpec.upto diveReturnsSpec)

/-- 'moonpoollaw08.DiveApart', WHERE WHAT IT READS IS OF BULK AT MOST 1048576: true; the input reads as it did. -/
def diveApartUptoRow : OpenClaim := { program := "ytnimcgmgnmlfgaa", sum := "57a6834ee7a6e0517ceaf886ebcf73198f586f57b116107f64f75bc34a3b99e0", func := "moonpool/moonpoollaw08.DiveApart", spec := "diveApart", inPlace := ["slices.overlaps[int]"], unfollowed := true, recurses := true, apart := false, narrowed := true }
def DiveApartUptoSaid : Prop := diveApartUptoRow.holds Try.pinned (OpenSpec.upto diveApartSpec)

/-- 'moonpoollaw08.DiveWatches', WHERE WHAT IT READS IS OF BULK AT MOST 1048576: true; the input reads as it did. -/
def diveWatchesUptoRow : OpenClaim := { program := "ytnimcgmgnmlfgaa", sum := "57a6834ee7a6e0517ceaf886ebcf73198f586f57b116107f64f75bc34a3b99e0", func := "moonpool/moonpoollaw08.DiveWatches", spec := "diveWatches", inPlace := ["slices.overlaps[int]"], unfollowed := true, recurses := true, apart := false, narrowed := true }
def DiveWatchesUptoSaid : Prop := diveWatchesUptoRow.holds Try.pinned (OpenSpec.upto diveWatchesSpec)

/-- 'moonpoollaw08.DiveBack', WHERE WHAT IT READS IS OF BULK AT MOST 1048576: true; the input reads as it did. -/
def diveBackUptoRow : OpenClaim := { program := "ytnimcgmgnmlfgaa", sum := "57a6834ee7a6e0517ceaf886ebcf73198f586f57b116107f64f75bc34a3b99e0", func := "moonpool/moonpoollaw08.DiveBack", spec := "diveBack", inPlace := ["slices.overlaps[int]"], unfollowed := true, recurses := true, apart := false, narrowed := true }
def DiveBackUptoSaid : Prop := diveBackUptoRow.holds Try.pinned (OpenSpec.upto diveBackSpec)

end Rows
end Go.Proofs.Ytnimcgmgnmlfgaa
