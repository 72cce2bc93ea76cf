/- Proved here at the end: the row named in the last theorem, on no condition. -/
import Derived.Test.YtggcobcogdhfhaaGreatDoorSonarStringsE
import Derived.Test.YtggcobcogdhfhaaGreatDoorRows
import Derived.LaidMore
import Derived.OpenShut
import Derived.Lib.LaidTab
import Derived.Test.YtggcobcogdhfhaaGreatDoorCards
import Derived.Test.YtggcobcogdhfhaaGreatDoorTie
import Derived.Lay
import Derived.SevenTiedAt
set_option linter.unusedVariables false
namespace Go.Proofs.YtggcobcogdhfhaaGreatDoor
open Go.ChangeShapes Go.WideShapes Go.ChangeAt Go.RowKit Go.Pw
abbrev laids : List (String × DataW Unit) := Rows.sonarStringsRow.laid
theorem var_at {W : World} {name : String} {g : Nat} {cs : Array Value} (hg : Tryz.prog.globalNamed name = some g) (hv : World.var? Tryz.prog W name = some cs) : ∃ t fr, W.heap[g]? = some (.cells cs t fr) := by
  unfold World.var? at hv
  rw [hg, Option.bind_some] at hv
  split at hv
  · rename_i cs' t fr h
    cases hv
    exact ⟨t, fr, h⟩
  · cases hv
set_option maxRecDepth 100000 in
theorem ifc_at {W : World} {name : String} {g : Nat} {cs : Array Value} {fuel : Nat} {d : DataW Unit} {p : List MemPlace} {b : Nat} {sp : Nat → Bool} {hd : Bool} {enc : TypeId × Value → Unit} (hg : Tryz.prog.globalNamed name = some g) (hv : World.var? Tryz.prog W name = some cs)
    (h : DataW.trod enc Tryz.prog W b sp hd fuel 98 cs.toList = some (d, p)) : ifcW W g := by
  obtain ⟨t, fr, hh⟩ := var_at hg hv
  cases fuel with
  | zero => simp [DataW.trod] at h
  | succ fuel =>
    have hu := Tryz.underlying98
    generalize #[("Error", 101)] = ms at hu
    obtain ⟨l⟩ := cs
    simp only [DataW.trod, hu] at h
    split at h
    all_goals first
      | (have q := (by assumption : some (TypeDesc.interface ms) = some _); injection q with q; cases q; done)
      | (cases h; done)
      | exact ⟨.nilIface, by rw [Lib.cell_of_heap hh]; rfl, .inl rfl⟩
      | exact ⟨_, by rw [Lib.cell_of_heap hh]; rfl, .inr ⟨_, _, rfl⟩⟩
set_option maxRecDepth 100000 in
/-- What the listed variables hold. -/
theorem of_laid {W : World} (h : laidMetH Tryz.prog laids W) : LaidW W := by
  rw [MakeChecks.laidMetH_plain _ _ _ (by kernel_rfl)] at h
  obtain ⟨ps, ⟨g0, t0, cs0, f0, p0, q0, hg0, ht0, hv0, hd0, ⟨g1, t1, cs1, f1, p1, q1, hg1, ht1, hv1, hd1, ⟨g2, t2, cs2, f2, p2, q2, hg2, ht2, hv2, hd2, ⟨g3, t3, cs3, f3, p3, q3, hg3, ht3, hv3, hd3, ⟨g4, t4, cs4, f4, p4, q4, hg4, ht4, hv4, hd4, ⟨g5, t5, cs5, f5, p5, q5, hg5, ht5, hv5, hd5, _⟩, _⟩, _⟩, _⟩, _⟩, _⟩, _⟩ := h
  have e2 : g2 = 5 := Option.some.inj (hg2.symm.trans sh_laysM171.m17)
  have e4 : g4 = 4 := Option.some.inj (hg4.symm.trans sh_laysC172.m16)
  have e5 : g5 = 3 := Option.some.inj (hg5.symm.trans sh_laysC172.m15)
  subst e2; subst e4; subst e5
  have k2 : t2 = 244 := Option.some.inj (ht2.symm.trans (by kernel_rfl))
  have k4 : t4 = 98 := Option.some.inj (ht4.symm.trans (by kernel_rfl))
  have k5 : t5 = 98 := Option.some.inj (ht5.symm.trans (by kernel_rfl))
  subst k2; subst k4; subst k5
  refine ⟨?_, ifc_at hg5 hv5 hd5, ifc_at hg4 hv4 hd4⟩
  obtain ⟨t, fr, hh⟩ := var_at hg2 hv2
  have hcs := Lib.cells_of_tab (k := .u64) (zs := Lib.pow10Tab) Tryz.underlying244 Tryz.underlying225 (by kernel_rfl) (by kernel_rfl) hd2
  refine ⟨t, fr, ?_⟩
  rw [hh]
  obtain ⟨l⟩ := cs2
  simp only at hcs
  rw [hcs]
end Go.Proofs.YtggcobcogdhfhaaGreatDoor

namespace Go.Proofs.YtggcobcogdhfhaaGreatDoor
open Go.ChangeShapes Go.WideShapes Go.ChangeAt Go.RowKit Go.Pw
theorem Tryz.own : ownKnob Tryz.prog.godebug = none := by kernel_rfl
theorem Tryz.laidOut : laidOutB Tryz.prog = true := by kernel_rfl
theorem shapes : shAll Tryz.prog [22, 25, 9] = some [(false, [.sl [.int .i64, .int .i64, .int .i64]]), (true, [.int .i64, .int .i64, .sl [.int .i64, .int .i64, .int .i64, .int .i64, .bool]]), (false, [.str])] := by kernel_rfl
theorem law (args : List V) (h : ArgOk [(false, [.sl [.int .i64, .int .i64, .int .i64]]), (true, [.int .i64, .int .i64, .sl [.int .i64, .int .i64, .int .i64, .int .i64, .bool]]), (false, [.str])] args) : PFD Tryz.prog 3 args (vbl true) := by
  match args, h with
  | [v0, v1, v2], ⟨h0, h1, h2, _⟩ =>
    obtain ⟨l0, r0, q0⟩ := arg_trs h0
    obtain ⟨s1, r1, q1⟩ := arg_scene h1
    obtain ⟨l2, rfl⟩ := arg_str h2
    exact PFD.ri (C3 (fun d hd => ⟨i64_P (q0.2 d hd).1, i64_P (q0.2 d hd).2.1, i64_P (q0.2 d hd).2.2⟩) ⟨i64_P q1.1.1, i64_P q1.1.2, fun r hr => ⟨⟨i64_P (q1.2.2 r hr).1.1, i64_P (q1.2.2 r hr).1.2⟩, i64_P (q1.2.2 r hr).2.1, i64_P (q1.2.2 r hr).2.2⟩⟩) (.cons r0 (.cons r1 (.cons (RI.refl _) .nil)))
set_option maxRecDepth 100000 in
theorem lifted (os : Os) (started : os.Started) (H : Type) (enc : TypeId × Value → H) :
    ReturnsInHanded {} Tryz.checked os 3 .any (fun w args => (Rows.sonarStringsSpec.pre enc Tryz.prog Tryz.f3 Rows.sonarStringsRow.domain false w args ∧ laidMetH Tryz.prog Rows.sonarStringsRow.laid w) ∧ sizedMet enc Tryz.prog Tryz.f3 (OpenSpec.ofChange Rows.sonarStringsSpec) false w args)
      (Rows.sonarStringsSpec.post enc Tryz.prog Tryz.f3 false true false false) := by
  refine returnsInHanded_of_change_and (C := Tryz.checked) (X := fun w _ => laidMetH Tryz.prog Rows.sonarStringsRow.laid w) (fun _ _ _ hh h => h.of_heap hh) Tryz.own started (by kernel_rfl) Tryz.func3
    (ChangeSpec.witness_shaped (enc := enc) (C := Tryz.checked) (os := os) (X := fun w _ => laidMetH Tryz.prog Rows.sonarStringsRow.laid w) false (World.laidAll Tryz.prog os Rows.sonarStringsRow.laid) #[.slice none 0 0, .agg #[.int .i64 0, .int .i64 0, .slice none 0 0], .string ⟨#[]⟩] 8 (World.laidAll_os _ _ _)
      (World.shaped_of_ZipB (by kernel_rfl) (by kernel_rfl)) (by kernel_rfl) (by kernel_rfl) (by kernel_rfl)
      (by rw [MakeChecks.laidMetH_plain _ _ _ (by kernel_rfl)]; exact laidMet_laidAll _ (by kernel_rfl) (by kernel_rfl))) ?_
  intro W base args ds gs before hval0 hW _ _ hL _
  exact law_calls (P := Tryz.prog) (F := Tryz.f3) (tb := 4) Tryz.laidOut (by rw [Tryz.params3]; exact shapes) rfl (fun ds hl => by
    rw [Tryz.params3] at hl
    match ds, hl with
    | [d0, d1, d2], _ => rfl) (by kernel_rfl) Tryz.underlying4 law W base args ds gs before (of_laid hL) hval0 hW
theorem row_said : Rows.SonarStringsSaid :=
  OpenClaim.holds_of_wide 3 Tryz.f3 rfl rfl rfl rfl rfl rfl rfl ⟨rfl, rfl, rfl, rfl, rfl⟩ rfl rfl rfl rfl rfl (by kernel_rfl) Tryz.func3 (by kernel_rfl)
    (of_decide_eq_true (by kernel_rfl)) (by unfold Func.isWrapper; rw [if_neg (by decide +kernel)]; exact ⟨rfl, rfl⟩)
    (fun os started H enc _ => lifted os started H enc)
theorem row_holds : Rows.SonarStringsCardSaid :=
  Claim7.holds_tied_plain_at .later [] [.data, .data, .data, .data, .sentinel, .sentinel, .pinned] true (true, "9aab5aad1b66f51c842d1983beae4b516ca64e198cf37c568b2a43f08e44bb6e") true row_said (fun _ h => by cases h) (by kernel_rfl) (fun _ h => by cases h) sonarStrings_row_tie rfl ⟨rfl, rfl⟩ (by kernel_rfl) rfl
    (fun f fn hf hfn => by
      obtain rfl : f = 3 := Option.some.inj ((show Tryz.prog.funcNamed "moonpool/moonpoollaw04.SonarStrings" = some 3 by kernel_rfl).symm.trans hf) |>.symm
      obtain rfl : fn = Tryz.f3 := (Option.some.inj (Tryz.func3.symm.trans hfn)).symm
      exact ⟨by kernel_rfl, fun j t ht => by
        rw [Tryz.params3] at ht
        have hm : t ∈ [22, 25, 9] := by simpa using Array.mem_of_getElem? ht
        have hall : ([22, 25, 9].all fun u => !Tryz.prog.wantsStandIn u) = true := by kernel_rfl
        exact (show Tryz.prog.wantsStandIn t = false by simpa using List.all_eq_true.1 hall t hm)⟩)
    (by kernel_rfl)
end Go.Proofs.YtggcobcogdhfhaaGreatDoor
