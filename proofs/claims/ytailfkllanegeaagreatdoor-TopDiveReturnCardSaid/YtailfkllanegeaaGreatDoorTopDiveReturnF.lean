/- Proved here at the end: the row named in the last theorem, on no condition. -/
import Derived.Test.YtailfkllanegeaaGreatDoorTopDiveReturnE
import Derived.Test.YtailfkllanegeaaGreatDoorRows
import Derived.Test.YtailfkllanegeaaGreatDoorCards
import Derived.Test.YtailfkllanegeaaGreatDoorTie
import Derived.Lay
import Derived.SevenTiedAt
namespace Go.Proofs.YtailfkllanegeaaGreatDoor
open Go.ChangeShapes Go.WideShapes Go.ChangeAt Go.RowKit Go.Pw
theorem Tryz.own : ownKnob Tryz.prog.godebug = none := by kernel_rfl
theorem Tryz.laidOut : laidOutB Tryz.prog = true := by kernel_rfl
theorem shapes : shAll Tryz.prog [102, 51, 124] = some [(true, siSh), (true, stSh), (true, [.int .i64, .int .i64, .int .i64, .int .i64, .int .i64])] := by kernel_rfl
theorem law (args : List V) (h : ArgOk [(true, siSh), (true, stSh), (true, [.int .i64, .int .i64, .int .i64, .int .i64, .int .i64])] args) : PFD Tryz.prog 7 args (vbl true) := by
  match args, h with
  | [v0, v1, v2], ⟨h0, h1, h2, _⟩ =>
    obtain ⟨s0, r0, q0⟩ := arg_site h0
    obtain ⟨t1, r1, q1⟩ := arg_state h1
    obtain ⟨x2, rfl⟩ := arg_rota h2
    exact PFD.ri C7 (.cons r0 (.cons r1 (.cons (RI.refl _) .nil)))
set_option maxRecDepth 100000 in
theorem lifted (os : Os) (started : os.Started) (H : Type) (enc : TypeId × Value → H) :
    ReturnsInHanded {} Tryz.checked os 7 .any (fun w args => (Rows.topDiveReturnSpec.pre enc Tryz.prog Tryz.f7 Rows.topDiveReturnRow.domain false w args ∧ laidMetH Tryz.prog Rows.topDiveReturnRow.laid w) ∧ sizedMet enc Tryz.prog Tryz.f7 (OpenSpec.ofChange Rows.topDiveReturnSpec) false w args)
      (Rows.topDiveReturnSpec.post enc Tryz.prog Tryz.f7 false true false false) := by
  refine returnsInHanded_of_change_and (C := Tryz.checked) (X := fun w _ => laidMetH Tryz.prog Rows.topDiveReturnRow.laid w) (fun _ _ _ hh h => h.of_heap hh) Tryz.own started (by kernel_rfl) Tryz.func7
    (ChangeSpec.witness_shaped (enc := enc) (C := Tryz.checked) (os := os) (X := fun w _ => laidMetH Tryz.prog Rows.topDiveReturnRow.laid w) false (World.laidAll Tryz.prog os Rows.topDiveReturnRow.laid) #[.agg #[.slice none 0 0, .slice none 0 0, .slice none 0 0, .slice none 0 0, .int .i64 0, .int .i64 0, .int .i64 0, .int .i64 0], .agg #[.int .i64 0, .int .i64 0, .int .i64 0, .int .i64 0, .slice none 0 0], .agg #[.int .i64 0, .int .i64 0, .int .i64 0, .int .i64 0, .int .i64 0]] 8 (World.laidAll_os _ _ _)
      (World.shaped_of_ZipB (by kernel_rfl) (by kernel_rfl)) (by kernel_rfl) (by kernel_rfl) (by kernel_rfl)
      (by rw [MakeChecks.laidMetH_plain _ _ _ (by kernel_rfl)]; exact laidMet_laidAll _ (by kernel_rfl) (by kernel_rfl))) ?_
  intro W base args ds gs before hval0 hW _ _ hL _
  exact law_calls (P := Tryz.prog) (F := Tryz.f7) (tb := 4) Tryz.laidOut (by rw [Tryz.params7]; exact shapes) rfl (fun ds hl => by
    rw [Tryz.params7] at hl
    match ds, hl with
    | [d0, d1, d2], _ => rfl) (by kernel_rfl) Tryz.underlying4 law W base args ds gs before (of_laid hL) hval0 hW
theorem fn_named : Tryz.checked.prog.funcNamed "moonpool/moonpooltop.TopDiveReturn" = some 7 := by kernel_rfl
theorem jf_laid : laidOutB Tryz.checked.prog = true := by kernel_rfl
theorem jf_place : (Rows.topDiveReturnRow.inPlace == Tryz.checked.prog.inPlace 7) = true := by kernel_rfl
theorem jf_unf : (Rows.topDiveReturnRow.unfollowed == Tryz.checked.prog.unfollowed 7) = true := by kernel_rfl
theorem jf_rec : (Rows.topDiveReturnRow.recurses == Tryz.checked.prog.recurses 7) = true := by kernel_rfl
theorem jf_vars : (Rows.topDiveReturnRow.named == Tryz.checked.prog.varsNamed 7) = true := by kernel_rfl
theorem jf_heard : Tryz.checked.prog.stopsHeard = true := by kernel_rfl
theorem jf_enter : Tryz.checked.prog.mayEnter = true := by kernel_rfl
theorem jf_lift : (Rows.topDiveReturnRow.lifted == Tryz.checked.prog.liftsFinal) = true := by kernel_rfl
theorem row_closed : joinedFacts Tryz.checked.prog 7 Tryz.f7 Rows.topDiveReturnSpec Rows.topDiveReturnRow = true := by
  unfold joinedFacts
  rw [jf_laid, jf_place, jf_unf, jf_rec, jf_vars, jf_heard, jf_enter, jf_lift]
  kernel_rfl
theorem row_inst : Tryz.f7.isInstance Tryz.checked.prog Rows.topDiveReturnRow.origin Rows.topDiveReturnRow.targs := of_decide_eq_true (by kernel_rfl)
theorem row_said : Rows.TopDiveReturnSaid :=
  OpenClaim.holds_of_wide 7 Tryz.f7 rfl rfl rfl rfl rfl rfl rfl ⟨rfl, rfl, rfl, rfl, rfl⟩ rfl rfl rfl rfl rfl fn_named Tryz.func7 row_closed
    row_inst (by unfold Func.isWrapper; rw [if_neg (by decide +kernel)]; exact ⟨rfl, rfl⟩)
    (fun os started H enc _ => lifted os started H enc)
theorem c_text : Rows.topDiveReturnRow.wfByText (OpenSpec.ofChange Rows.topDiveReturnSpec) = true := by kernel_rfl
theorem c_main : Tryz.checked.prog.mainIs = some ((true, "ab0ad2688efc77b1af25035b2f6d3f5847084c03f38490e574dab7e3cb281bfc").1, (true, "ab0ad2688efc77b1af25035b2f6d3f5847084c03f38490e574dab7e3cb281bfc").2.toList) := by kernel_rfl
theorem c_looks : true = Tryz.checked.prog.looks [] := by kernel_rfl
theorem c_stand : ([102, 51, 124].all fun u => !Tryz.checked.prog.wantsStandIn u) = true := by kernel_rfl
theorem c_goes : false = Rows.topDiveReturnRow.goesBy Tryz.checked.prog := by kernel_rfl
theorem row_holds : Rows.TopDiveReturnCardSaid :=
  Claim7.holds_tied_plain_at .later [] [.data, .data, .data, .data, .sentinel, .sentinel, .pinned] true (true, "ab0ad2688efc77b1af25035b2f6d3f5847084c03f38490e574dab7e3cb281bfc") true row_said (fun _ h => by cases h) c_text (fun _ h => by cases h) topDiveReturn_row_tie rfl ⟨rfl, rfl⟩ c_main rfl
    (fun f fn hf hfn => by
      obtain rfl : f = 7 := Option.some.inj (fn_named.symm.trans hf) |>.symm
      obtain rfl : fn = Tryz.f7 := (Option.some.inj (Tryz.func7.symm.trans hfn)).symm
      exact ⟨c_looks, fun j t ht => by
        rw [Tryz.params7] at ht
        have hm : t ∈ [102, 51, 124] := by simpa using Array.mem_of_getElem? ht
        exact (show Tryz.checked.prog.wantsStandIn t = false by simpa using List.all_eq_true.1 c_stand t hm)⟩)
    c_goes
end Go.Proofs.YtailfkllanegeaaGreatDoor
