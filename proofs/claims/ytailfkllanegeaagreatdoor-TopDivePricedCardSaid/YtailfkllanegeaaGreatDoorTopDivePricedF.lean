/- Proved here at the end: the row named in the last theorem, on no condition. -/
import Derived.Test.YtailfkllanegeaaGreatDoorTopDivePricedE
import Derived.Test.YtailfkllanegeaaGreatDoorRows
import Derived.Test.YtailfkllanegeaaGreatDoorCards
import Derived.Test.YtailfkllanegeaaGreatDoorTie
import Derived.Lay
import Derived.SevenTiedAt
namespace Go.Proofs.YtailfkllanegeaaGreatDoor
open Go.ChangeShapes Go.WideShapes Go.ChangeAt Go.RowKit Go.Pw
theorem Tryz.own : ownKnob Tryz.prog.godebug = none := by kernel_rfl
theorem Tryz.laidOut : laidOutB Tryz.prog = true := by kernel_rfl
theorem shapes : shAll Tryz.prog [102, 51, 104] = some [(true, siSh), (true, stSh), (true, [.int .i64, .int .i64])] := by kernel_rfl
theorem law (args : List V) (h : ArgOk [(true, siSh), (true, stSh), (true, [.int .i64, .int .i64])] args) : PFD Tryz.prog 6 args (vbl true) := by
  match args, h with
  | [v0, v1, v2], ⟨h0, h1, h2, _⟩ =>
    obtain ⟨s0, r0, q0⟩ := arg_site h0
    obtain ⟨t1, r1, q1⟩ := arg_state h1
    obtain ⟨l2, rfl, q2⟩ := arg_pr h2
    exact PFD.ri (C6 ⟨w64_i q2.1, w64_i q2.2⟩) (.cons r0 (.cons r1 (.cons (RI.refl _) .nil)))
set_option maxRecDepth 100000 in
theorem lifted (os : Os) (started : os.Started) (H : Type) (enc : TypeId × Value → H) :
    ReturnsInHanded {} Tryz.checked os 6 .any (fun w args => (Rows.topDivePricedSpec.pre enc Tryz.prog Tryz.f6 Rows.topDivePricedRow.domain false w args ∧ laidMetH Tryz.prog Rows.topDivePricedRow.laid w) ∧ sizedMet enc Tryz.prog Tryz.f6 (OpenSpec.ofChange Rows.topDivePricedSpec) false w args)
      (Rows.topDivePricedSpec.post enc Tryz.prog Tryz.f6 false true false false) := by
  refine returnsInHanded_of_change_and (C := Tryz.checked) (X := fun w _ => laidMetH Tryz.prog Rows.topDivePricedRow.laid w) (fun _ _ _ hh h => h.of_heap hh) Tryz.own started (by kernel_rfl) Tryz.func6
    (ChangeSpec.witness_shaped (enc := enc) (C := Tryz.checked) (os := os) (X := fun w _ => laidMetH Tryz.prog Rows.topDivePricedRow.laid w) false (World.laidAll Tryz.prog os Rows.topDivePricedRow.laid) #[.agg #[.slice none 0 0, .slice none 0 0, .slice none 0 0, .slice none 0 0, .int .i64 0, .int .i64 0, .int .i64 0, .int .i64 0], .agg #[.int .i64 0, .int .i64 0, .int .i64 0, .int .i64 0, .slice none 0 0], .agg #[.int .i64 0, .int .i64 0]] 8 (World.laidAll_os _ _ _)
      (World.shaped_of_ZipB (by kernel_rfl) (by kernel_rfl)) (by kernel_rfl) (by kernel_rfl) (by kernel_rfl)
      (by rw [MakeChecks.laidMetH_plain _ _ _ (by kernel_rfl)]; exact laidMet_laidAll _ (by kernel_rfl) (by kernel_rfl))) ?_
  intro W base args ds gs before hval0 hW _ _ hL _
  exact law_calls (P := Tryz.prog) (F := Tryz.f6) (tb := 4) Tryz.laidOut (by rw [Tryz.params6]; exact shapes) rfl (fun ds hl => by
    rw [Tryz.params6] at hl
    match ds, hl with
    | [d0, d1, d2], _ => rfl) (by kernel_rfl) Tryz.underlying4 law W base args ds gs before (of_laid hL) hval0 hW
theorem fn_named : Tryz.checked.prog.funcNamed "moonpool/moonpooltop.TopDivePriced" = some 6 := by kernel_rfl
theorem jf_laid : laidOutB Tryz.checked.prog = true := by kernel_rfl
theorem jf_place : (Rows.topDivePricedRow.inPlace == Tryz.checked.prog.inPlace 6) = true := by kernel_rfl
theorem jf_unf : (Rows.topDivePricedRow.unfollowed == Tryz.checked.prog.unfollowed 6) = true := by kernel_rfl
theorem jf_rec : (Rows.topDivePricedRow.recurses == Tryz.checked.prog.recurses 6) = true := by kernel_rfl
theorem jf_vars : (Rows.topDivePricedRow.named == Tryz.checked.prog.varsNamed 6) = true := by kernel_rfl
theorem jf_heard : Tryz.checked.prog.stopsHeard = true := by kernel_rfl
theorem jf_enter : Tryz.checked.prog.mayEnter = true := by kernel_rfl
theorem jf_lift : (Rows.topDivePricedRow.lifted == Tryz.checked.prog.liftsFinal) = true := by kernel_rfl
theorem row_closed : joinedFacts Tryz.checked.prog 6 Tryz.f6 Rows.topDivePricedSpec Rows.topDivePricedRow = true := by
  unfold joinedFacts
  rw [jf_laid, jf_place, jf_unf, jf_rec, jf_vars, jf_heard, jf_enter, jf_lift]
  kernel_rfl
theorem row_inst : Tryz.f6.isInstance Tryz.checked.prog Rows.topDivePricedRow.origin Rows.topDivePricedRow.targs := of_decide_eq_true (by kernel_rfl)
theorem row_said : Rows.TopDivePricedSaid :=
  OpenClaim.holds_of_wide 6 Tryz.f6 rfl rfl rfl rfl rfl rfl rfl ⟨rfl, rfl, rfl, rfl, rfl⟩ rfl rfl rfl rfl rfl fn_named Tryz.func6 row_closed
    row_inst (by unfold Func.isWrapper; rw [if_neg (by decide +kernel)]; exact ⟨rfl, rfl⟩)
    (fun os started H enc _ => lifted os started H enc)
theorem c_text : Rows.topDivePricedRow.wfByText (OpenSpec.ofChange Rows.topDivePricedSpec) = true := by kernel_rfl
theorem c_main : Tryz.checked.prog.mainIs = some ((true, "ab0ad2688efc77b1af25035b2f6d3f5847084c03f38490e574dab7e3cb281bfc").1, (true, "ab0ad2688efc77b1af25035b2f6d3f5847084c03f38490e574dab7e3cb281bfc").2.toList) := by kernel_rfl
theorem c_looks : true = Tryz.checked.prog.looks [] := by kernel_rfl
theorem c_stand : ([102, 51, 104].all fun u => !Tryz.checked.prog.wantsStandIn u) = true := by kernel_rfl
theorem c_goes : false = Rows.topDivePricedRow.goesBy Tryz.checked.prog := by kernel_rfl
theorem row_holds : Rows.TopDivePricedCardSaid :=
  Claim7.holds_tied_plain_at .later [] [.data, .data, .data, .data, .sentinel, .sentinel, .pinned] true (true, "ab0ad2688efc77b1af25035b2f6d3f5847084c03f38490e574dab7e3cb281bfc") true row_said (fun _ h => by cases h) c_text (fun _ h => by cases h) topDivePriced_row_tie rfl ⟨rfl, rfl⟩ c_main rfl
    (fun f fn hf hfn => by
      obtain rfl : f = 6 := Option.some.inj (fn_named.symm.trans hf) |>.symm
      obtain rfl : fn = Tryz.f6 := (Option.some.inj (Tryz.func6.symm.trans hfn)).symm
      exact ⟨c_looks, fun j t ht => by
        rw [Tryz.params6] at ht
        have hm : t ∈ [102, 51, 104] := by simpa using Array.mem_of_getElem? ht
        exact (show Tryz.checked.prog.wantsStandIn t = false by simpa using List.all_eq_true.1 c_stand t hm)⟩)
    c_goes
end Go.Proofs.YtailfkllanegeaaGreatDoor
