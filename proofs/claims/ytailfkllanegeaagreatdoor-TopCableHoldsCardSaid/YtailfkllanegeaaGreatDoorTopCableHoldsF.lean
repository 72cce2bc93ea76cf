/- Proved here at the end: the row named in the last theorem, on no condition. -/
import Derived.Test.YtailfkllanegeaaGreatDoorTopCableHoldsE
import Derived.Test.YtailfkllanegeaaGreatDoorRows
import Derived.Test.YtailfkllanegeaaGreatDoorCards
import Derived.Test.YtailfkllanegeaaGreatDoorTie
import Derived.Lay
import Derived.SevenTiedAt
namespace Go.Proofs.YtailfkllanegeaaGreatDoor
open Go.ChangeShapes Go.WideShapes Go.ChangeAt Go.RowKit Go.Pw
theorem Tryz.own : ownKnob Tryz.prog.godebug = none := by kernel_rfl
theorem Tryz.laidOut : laidOutB Tryz.prog = true := by kernel_rfl
theorem shapes : shAll Tryz.prog [26, 27, 49] = some [(true, [.int .i64, .int .i64, .sl [.int .i64, .int .i64, .int .i64]]), (false, [.sl [.int .i64, .int .i64]]), (false, [.sl [.int .i64]])] := by kernel_rfl
theorem law (args : List V) (h : ArgOk [(true, [.int .i64, .int .i64, .sl [.int .i64, .int .i64, .int .i64]]), (false, [.sl [.int .i64, .int .i64]]), (false, [.sl [.int .i64]])] args) : PFD Tryz.prog 5 args (vbl true) := by
  match args, h with
  | [v0, v1, v2], ⟨h0, h1, h2, _⟩ =>
    obtain ⟨x0, z0, l0, r0, q0⟩ := arg_line h0
    obtain ⟨l1, r1, q1⟩ := arg_prs h1
    obtain ⟨l2, r2, q2⟩ := arg_ints h2
    exact PFD.ri (C5 (i64_P q0.1) (i64_P q0.2.1) (w64s_of q2.2)) (.cons r0 (.cons r1 (.cons r2 .nil)))
set_option maxRecDepth 100000 in
theorem lifted (os : Os) (started : os.Started) (H : Type) (enc : TypeId × Value → H) :
    ReturnsInHanded {} Tryz.checked os 5 .any (fun w args => (Rows.topCableHoldsSpec.pre enc Tryz.prog Tryz.f5 Rows.topCableHoldsRow.domain false w args ∧ laidMetH Tryz.prog Rows.topCableHoldsRow.laid w) ∧ sizedMet enc Tryz.prog Tryz.f5 (OpenSpec.ofChange Rows.topCableHoldsSpec) false w args)
      (Rows.topCableHoldsSpec.post enc Tryz.prog Tryz.f5 false true false false) := by
  refine returnsInHanded_of_change_and (C := Tryz.checked) (X := fun w _ => laidMetH Tryz.prog Rows.topCableHoldsRow.laid w) (fun _ _ _ hh h => h.of_heap hh) Tryz.own started (by kernel_rfl) Tryz.func5
    (ChangeSpec.witness_shaped (enc := enc) (C := Tryz.checked) (os := os) (X := fun w _ => laidMetH Tryz.prog Rows.topCableHoldsRow.laid w) false (World.laidAll Tryz.prog os Rows.topCableHoldsRow.laid) #[.agg #[.int .i64 0, .int .i64 0, .slice none 0 0], .slice none 0 0, .slice none 0 0] 8 (World.laidAll_os _ _ _)
      (World.shaped_of_ZipB (by kernel_rfl) (by kernel_rfl)) (by kernel_rfl) (by kernel_rfl) (by kernel_rfl)
      (by rw [MakeChecks.laidMetH_plain _ _ _ (by kernel_rfl)]; exact laidMet_laidAll _ (by kernel_rfl) (by kernel_rfl))) ?_
  intro W base args ds gs before hval0 hW _ _ hL _
  exact law_calls (P := Tryz.prog) (F := Tryz.f5) (tb := 4) Tryz.laidOut (by rw [Tryz.params5]; exact shapes) rfl (fun ds hl => by
    rw [Tryz.params5] at hl
    match ds, hl with
    | [d0, d1, d2], _ => rfl) (by kernel_rfl) Tryz.underlying4 law W base args ds gs before (of_laid hL) hval0 hW
theorem fn_named : Tryz.checked.prog.funcNamed "moonpool/moonpooltop.TopCableHolds" = some 5 := by kernel_rfl
theorem jf_laid : laidOutB Tryz.checked.prog = true := by kernel_rfl
theorem jf_place : (Rows.topCableHoldsRow.inPlace == Tryz.checked.prog.inPlace 5) = true := by kernel_rfl
theorem jf_unf : (Rows.topCableHoldsRow.unfollowed == Tryz.checked.prog.unfollowed 5) = true := by kernel_rfl
theorem jf_rec : (Rows.topCableHoldsRow.recurses == Tryz.checked.prog.recurses 5) = true := by kernel_rfl
theorem jf_vars : (Rows.topCableHoldsRow.named == Tryz.checked.prog.varsNamed 5) = true := by kernel_rfl
theorem jf_heard : Tryz.checked.prog.stopsHeard = true := by kernel_rfl
theorem jf_enter : Tryz.checked.prog.mayEnter = true := by kernel_rfl
theorem jf_lift : (Rows.topCableHoldsRow.lifted == Tryz.checked.prog.liftsFinal) = true := by kernel_rfl
theorem row_closed : joinedFacts Tryz.checked.prog 5 Tryz.f5 Rows.topCableHoldsSpec Rows.topCableHoldsRow = true := by
  unfold joinedFacts
  rw [jf_laid, jf_place, jf_unf, jf_rec, jf_vars, jf_heard, jf_enter, jf_lift]
  kernel_rfl
theorem row_inst : Tryz.f5.isInstance Tryz.checked.prog Rows.topCableHoldsRow.origin Rows.topCableHoldsRow.targs := of_decide_eq_true (by kernel_rfl)
theorem row_said : Rows.TopCableHoldsSaid :=
  OpenClaim.holds_of_wide 5 Tryz.f5 rfl rfl rfl rfl rfl rfl rfl ⟨rfl, rfl, rfl, rfl, rfl⟩ rfl rfl rfl rfl rfl fn_named Tryz.func5 row_closed
    row_inst (by unfold Func.isWrapper; rw [if_neg (by decide +kernel)]; exact ⟨rfl, rfl⟩)
    (fun os started H enc _ => lifted os started H enc)
theorem c_text : Rows.topCableHoldsRow.wfByText (OpenSpec.ofChange Rows.topCableHoldsSpec) = true := by kernel_rfl
theorem c_main : Tryz.checked.prog.mainIs = some ((true, "ab0ad2688efc77b1af25035b2f6d3f5847084c03f38490e574dab7e3cb281bfc").1, (true, "ab0ad2688efc77b1af25035b2f6d3f5847084c03f38490e574dab7e3cb281bfc").2.toList) := by kernel_rfl
theorem c_looks : true = Tryz.checked.prog.looks [] := by kernel_rfl
theorem c_stand : ([26, 27, 49].all fun u => !Tryz.checked.prog.wantsStandIn u) = true := by kernel_rfl
theorem c_goes : false = Rows.topCableHoldsRow.goesBy Tryz.checked.prog := by kernel_rfl
theorem row_holds : Rows.TopCableHoldsCardSaid :=
  Claim7.holds_tied_plain_at .later [] [.data, .data, .data, .data, .sentinel, .sentinel, .pinned] true (true, "ab0ad2688efc77b1af25035b2f6d3f5847084c03f38490e574dab7e3cb281bfc") true row_said (fun _ h => by cases h) c_text (fun _ h => by cases h) topCableHolds_row_tie rfl ⟨rfl, rfl⟩ c_main rfl
    (fun f fn hf hfn => by
      obtain rfl : f = 5 := Option.some.inj (fn_named.symm.trans hf) |>.symm
      obtain rfl : fn = Tryz.f5 := (Option.some.inj (Tryz.func5.symm.trans hfn)).symm
      exact ⟨c_looks, fun j t ht => by
        rw [Tryz.params5] at ht
        have hm : t ∈ [26, 27, 49] := by simpa using Array.mem_of_getElem? ht
        exact (show Tryz.checked.prog.wantsStandIn t = false by simpa using List.all_eq_true.1 c_stand t hm)⟩)
    c_goes
end Go.Proofs.YtailfkllanegeaaGreatDoor
