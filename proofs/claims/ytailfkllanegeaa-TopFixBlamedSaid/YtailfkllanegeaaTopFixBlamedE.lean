/- Proved here at the end: the row named in the last theorem, on no condition. -/
import Derived.Test.YtailfkllanegeaaTopFixBlamedD
import Derived.Test.YtailfkllanegeaaRows
namespace Go.Proofs.Ytailfkllanegeaa
open Go.ChangeShapes Go.WideShapes Go.ChangeAt Go.RowKit Go.Pw
theorem Try.own : ownKnob Try.prog.godebug = none := by kernel_rfl
theorem Try.laidOut : laidOutB Try.prog = true := by kernel_rfl
theorem shapes : shAll Try.prog [57, 54, 62] = some [(true, ntSh), (true, b6Sh), (true, rgSh)] := by kernel_rfl
theorem law (args : List V) (h : ArgOk [(true, ntSh), (true, b6Sh), (true, rgSh)] args) : PFD Try.prog 4 args (vbl true) := by
  match args, h with
  | [v0, v1, v2], ⟨h0, h1, h2, _⟩ =>
    obtain ⟨w0, B0, r0, q0⟩ := arg_net5 h0
    obtain ⟨x1, rfl⟩ := arg_box5 h1
    obtain ⟨l2, p2, r2, q2⟩ := arg_rdg5 h2
    exact PFD.ri (C4w q0 q2) (.cons r0 (.cons (RI.refl _) (.cons r2 .nil)))
set_option maxRecDepth 100000 in
theorem lifted (os : Os) (started : os.Started) (H : Type) (enc : TypeId × Value → H) :
    ReturnsInHanded {} Try.checked os 4 .any (Rows.topFixBlamedSpec.pre6 enc Try.prog Try.f4 Rows.topFixBlamedRow.domain false) (Rows.topFixBlamedSpec.post enc Try.prog Try.f4 false true false false) := by
  refine returnsInHanded_of_change (C := Try.checked) Try.own started (by kernel_rfl) Try.func4
    (ChangeSpec.witness6 (enc := enc) (C := Try.checked) false ⟨#[], #[.agg #[.int .i64 0, .int .i64 0, .int .i64 0, .int .i64 0, .int .i64 0, .int .i64 0, .slice none 0 0], .agg #[.int .i64 0, .int .i64 0, .int .i64 0, .int .i64 0, .int .i64 0, .int .i64 0], .agg #[.slice none 0 0, .int .i64 0, .int .i64 0, .int .i64 0]], []⟩ 8 (by kernel_rfl) (by kernel_rfl) (by kernel_rfl) (by kernel_rfl)) ?_
  intro W base args ds gs before hval0 hW hcnd _
  exact law_calls (P := Try.prog) (F := Try.f4) (tb := 4) Try.laidOut (by rw [Try.params4]; exact shapes) rfl (fun ds hl => by
    rw [Try.params4] at hl
    match ds, hl with
    | [d0, d1, d2], _ => rfl) (by kernel_rfl) Try.underlying4 law W base args ds gs before trivial hval0 hW
theorem row_holds : Rows.TopFixBlamedSaid :=
  OpenClaim.holds_of_wide 4 Try.f4 rfl rfl rfl rfl rfl rfl rfl ⟨rfl, rfl, rfl, rfl, rfl⟩ rfl rfl rfl rfl rfl (by kernel_rfl) Try.func4 (by kernel_rfl)
    (of_decide_eq_true (by kernel_rfl)) (by unfold Func.isWrapper; rw [if_neg (by decide +kernel)]; exact ⟨rfl, rfl⟩)
    (fun os started H enc _ => lifted os started H enc)
end Go.Proofs.Ytailfkllanegeaa
