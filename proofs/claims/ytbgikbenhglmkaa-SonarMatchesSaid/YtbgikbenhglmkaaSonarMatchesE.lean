/- Proved here at the end: the row named in the last theorem, on no condition. -/
import Derived.Test.YtbgikbenhglmkaaSonarMatchesD
import Derived.Test.YtbgikbenhglmkaaRows
namespace Go.Proofs.Ytbgikbenhglmkaa
open Go.ChangeShapes Go.WideShapes Go.ChangeAt Go.RowKit Go.Pw
theorem Try.own : ownKnob Try.prog.godebug = none := by kernel_rfl
theorem Try.laidOut : laidOutB Try.prog = true := by kernel_rfl
theorem shapes : shAll Try.prog [35, 35, 53] = some [(false, [.sl [.int .i64, .int .i64]]), (false, [.sl [.int .i64, .int .i64]]), (true, [.int .i64, .int .i64, .int .i64, .int .i64])] := by kernel_rfl
theorem law (args : List V) (h : ArgOk [(false, [.sl [.int .i64, .int .i64]]), (false, [.sl [.int .i64, .int .i64]]), (true, [.int .i64, .int .i64, .int .i64, .int .i64])] args) : PFD Try.prog 5 args (vbl true) := by
  match args, h with
  | [v0, v1, v2], ⟨h0, h1, h2, _⟩ =>
    obtain ⟨l0, r0, q0⟩ := arg_prs h0
    obtain ⟨l1, r1, q1⟩ := arg_prs h1
    obtain ⟨p2, a2, b2, rfl, q2⟩ := arg_times h2
    exact PFD.ri (C5 (w64_i q2.2.1)) (.cons r0 (.cons r1 (.cons (RI.refl _) .nil)))
set_option maxRecDepth 100000 in
theorem lifted (os : Os) (started : os.Started) (H : Type) (enc : TypeId × Value → H) :
    ReturnsInHanded {} Try.checked os 5 .any (Rows.sonarMatchesSpec.pre6 enc Try.prog Try.f5 Rows.sonarMatchesRow.domain false) (Rows.sonarMatchesSpec.post enc Try.prog Try.f5 false true false false) := by
  refine returnsInHanded_of_change (C := Try.checked) Try.own started (by kernel_rfl) Try.func5
    (ChangeSpec.witness6 (enc := enc) (C := Try.checked) false ⟨#[], #[.slice none 0 0, .slice none 0 0, .agg #[.int .i64 0, .int .i64 0, .int .i64 0, .int .i64 0]], []⟩ 8 (by kernel_rfl) (by kernel_rfl) (by kernel_rfl) (by kernel_rfl)) ?_
  intro W base args ds gs before hval0 hW hcnd _
  exact law_calls (P := Try.prog) (F := Try.f5) (tb := 4) Try.laidOut (by rw [Try.params5]; exact shapes) rfl (fun ds hl => by
    rw [Try.params5] at hl
    match ds, hl with
    | [d0, d1, d2], _ => rfl) (by kernel_rfl) Try.underlying4 law W base args ds gs before hval0 hW
theorem row_holds : Rows.SonarMatchesSaid :=
  OpenClaim.holds_of_wide 5 Try.f5 rfl rfl rfl rfl rfl rfl rfl ⟨rfl, rfl, rfl, rfl, rfl⟩ rfl rfl rfl rfl rfl (by kernel_rfl) Try.func5 (by kernel_rfl)
    (of_decide_eq_true (by kernel_rfl)) (by unfold Func.isWrapper; rw [if_neg (by decide +kernel)]; exact ⟨rfl, rfl⟩)
    (fun os started H enc _ => lifted os started H enc)
end Go.Proofs.Ytbgikbenhglmkaa
