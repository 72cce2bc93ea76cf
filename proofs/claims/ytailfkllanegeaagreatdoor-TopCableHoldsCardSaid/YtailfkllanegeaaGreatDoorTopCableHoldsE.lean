/- Steps toward the row of this claim: part 5 of 6. Proved as named below, on no condition but those that each theorem states. -/
import Derived.Test.YtailfkllanegeaaGreatDoorTopCableHoldsD
import Derived.Test.YtailfkllanegeaaGreatDoorProg
import Derived.LoopNIn
import Derived.Test.YtailfkllanegeaaGreatDoorRows
import Derived.LaidMore
import Derived.OpenShut
import Derived.Lib.LaidTab
set_option linter.unusedVariables false
set_option maxHeartbeats 2000000
set_option maxRecDepth 100000
namespace Go.Pw
open Go Go.Proofs
/-- slices.Index[[]int,int] -/
def lc250 : LCode :=
  (.seq (.region [⟨some 4, .mv (.const (.int .i64 0)), none⟩]) (.seq (.seq (.region [⟨some 6, .mv (.tmp 0), none⟩, ⟨some 7, .len (.tmp 6), none⟩, ⟨some 8, .mv (.const (.int .i64
    0)), none⟩]) (.block 0 (.loop (.seq (.region [⟨some 9, .bin .lss (.tmp 8) (.tmp 7), none⟩]) (.seq (.cond (.tmp 9) .skip (.exit 0)) (.seq (.block 1 (.seq (.region [⟨some 10, .mv
    (.tmp 8), none⟩, ⟨some 5, .mv (.tmp 10), none⟩]) (.seq (.region [⟨some 11, .mv (.tmp 1), none⟩, ⟨some 12, .mv (.tmp 0), none⟩, ⟨some 13, .mv (.tmp 5), none⟩, ⟨some 14, .idx 1
    (.tmp 12) (.tmp 13), none⟩, ⟨some 15, .load false 1 (.tmp 14), none⟩, ⟨some 16, .bin .eql (.tmp 11) (.tmp 15), none⟩]) (.cond (.tmp 16) (.seq (.region [⟨some 17, .mv (.tmp 5),
    none⟩, ⟨some 4, .mv (.tmp 17), none⟩]) .ret) .skip)))) (.region [⟨some 18, .bin .add (.tmp 8) (.const (.int .i64 1)), none⟩, ⟨some 8, .mv (.tmp 18), none⟩]))))))) (.seq (.region
    [⟨some 4, .mv (.const (.int .i64 (-1))), none⟩]) .ret)))
theorem low250 : lowF Tryz.prog [] Tryz.f250 = some (19, lc250.strip, [.tmp 4]) := by kernel_rfl
theorem fn250 : FnOk Tryz.prog 250 19 lc250 [.tmp 4] := ⟨Tryz.call250, [], _, Tryz.func250, low250⟩
end Go.Pw

set_option linter.unusedSimpArgs false
set_option linter.unusedVariables false
set_option maxHeartbeats 1000000
namespace Go.Pw
open Go.RowKit Go.Lib
set_option maxRecDepth 2000
open Go Go.Proofs A1 A2 A3 A4
def idxE (n : Int) : Int → List Int → Int
  | _, [] => -1
  | k, x :: l => if n = x then k else idxE n (k + 1) l
theorem idxE_drop (n : Int) (l : List Int) (k : Nat) (h : k < l.length) : idxE n k (l.drop k) = if n = l.getD k 0 then (k : Int) else idxE n ((k + 1 : Nat) : Int) (l.drop (k + 1)) := by
  have e : l.drop k = l.getD k 0 :: l.drop (k + 1) := by
    rw [List.getD_eq_getElem?_getD, List.getElem?_eq_getElem h]; exact List.drop_eq_getElem_cons h
  rw [e, idxE]; rfl
theorem idxE_ge (n : Int) : ∀ (l : List Int) (k : Int), 0 ≤ k → (0 ≤ idxE n k l ↔ n ∈ l)
  | [], k, _ => by simp [idxE]
  | x :: l, k, hk => by
    rw [idxE]
    split
    · rename_i h; subst h; simp [hk]
    · rename_i h; rw [idxE_ge n l (k + 1) (by omega), List.mem_cons]; simp [h]
theorem C250 {l : List Int} {n : Int} : l.length ≤ 1000000 → PFD Tryz.prog 250 [.c (ints l), vi .i64 n] (vi .i64 (idxE n 0 l)) := fun hl => by
  refine pi1 fn250 ?_
  (repeat' first | (refine Owe.same ?_; first | refine Owe.o ?_ | refine Owe.mk ?_ ?_) | (refine Fork.same ?_; (first | refine fkD ?_ ?_ | refine fkN ?_ ?_ | refine fkM ?_ ?_) <;> intro h) | refine MvQ.stay ?_)
  refine Sat.lp0 (fun k : Nat => [(8, vi .i64 k), (7, vi .i64 l.length), (0, .c (ints l)), (1, vi .i64 n)]) (fun k => k ≤ l.length ∧ idxE n 0 l = idxE n k (l.drop k)) (fun k => l.length - k) 0 ⟨Nat.zero_le _, rfl⟩ (by ((first | refine qen ?_ | refine qvs ?_ | refine qeq ?_ | refine qst ?_ | refine qv ?_ | refine qc ?_ | refine qe ?_ | refine qcs ?_ | skip); (repeat' first | exact rfl | (refine qS ?_; constructor)))) ?_
  intro k hk
  (repeat' first | (refine Owe.same ?_; first | refine Owe.o ?_ | refine Owe.mk ?_ ?_) | (refine Fork.same ?_; (first | refine fkD ?_ ?_ | refine fkN ?_ ?_ | refine fkM ?_ ?_) <;> intro h) | refine MvQ.stay ?_)
  · have e := idxE_drop n l k (by omega)
    have h : n = l.getD k 0 := h
    rw [if_pos h, ← hk.2] at e
    (refine rqK rfl ?_; (repeat' first | exact rfl | (refine qS ?_; constructor))); rw [e]
  · have e := idxE_drop n l k (by omega)
    have h : ¬ n = l.getD k 0 := h
    rw [if_neg h, ← hk.2] at e
    exact again0 (k + 1) ⟨by omega, e⟩ (by omega) (by ((first | refine qen ?_ | refine qvs ?_ | refine qeq ?_ | refine qst ?_ | refine qv ?_ | refine qc ?_ | refine qe ?_ | refine qcs ?_ | skip); (repeat' first | exact rfl | (refine qS ?_; constructor))))
  · have e : idxE n 0 l = -1 := by rw [hk.2, List.drop_of_length_le (by omega)]; rfl
    (refine rqK rfl ?_; (repeat' first | exact rfl | (refine qS ?_; constructor))); rw [e]
theorem C186 {l : List Int} {n : Int} : l.length ≤ 1000000 → PFD Tryz.prog 186 [.c (ints l), vi .i64 n] (vbl (decide (n ∈ l))) := fun hl => by
  refine pi1 fn186 ?_
  (repeat' first | (refine Owe.same ?_; first | refine Owe.o ?_ | refine Owe.mk ?_ ?_) | (refine Fork.same ?_; (first | refine fkD ?_ ?_ | refine fkN ?_ ?_ | refine fkM ?_ ?_) <;> intro h) | ((first | refine OpsL.same ?_ | refine OpsDL.same ?_); first | refine pK (C250 hl) rfl rfl ?_) | refine MvQ.stay ?_)
  (refine rqK rfl ?_; (repeat' first | exact rfl | (refine qS ?_; constructor)))
  exact decide_eq_decide.2 (idxE_ge n l 0 (Int.le_refl _))
end Go.Pw

set_option linter.unusedVariables false
namespace Go.Pw
open Go Go.RowKit
section
variable {P : Program} {N base : Nat}
def rdS (P : Program) (N base : Nat) (x : LCode) (Q : Exit → St → Prop) : Nat → Exit → St → Prop
  | 0, .normal, _ => False
  | m + 1, .normal, st => Sat P N base x st (rdS P N base x Q m)
  | _, e, st => Q e st
theorem Sat.roundsN {x : LCode} {Q : Exit → St → Prop} (m : Nat) {st : St} (h : Sat P N base x st (rdS P N base x Q m)) : Sat P N base (.loop x) st Q := by
  intro ro n B0 own code hro hl Γ0 Γ w0 w σ0 a hc hext
  obtain ⟨c1, rfl, h1⟩ := low_loop hl
  have key : ∀ m (st : St) (Γ : Cx) (w : World) (a : Act), Conc N B0 base Γ w st a → Ext base Γ0 w0 σ0 Γ w st.σ → Sat P N base x st (rdS P N base x Q m) → Code.roundsIn (FW ro) n P c1 (Post N B0 base Γ0 w0 σ0 Q) (m + 1) a w := by
    intro m
    induction m with
    | zero =>
      intro st Γ w a hc hext h
      rw [roundsIn_succ]
      refine wpIn_mono (h ro n B0 own c1 hro h1 Γ0 Γ w0 w σ0 a hc hext) (fun e a' w' ⟨Γ', st', h3, h4, h5⟩ => ?_)
      cases e with
      | normal => exact h5.elim
      | _ => exact ⟨Γ', st', h3, h4, h5⟩
    | succ m ih =>
      intro st Γ w a hc hext h
      rw [roundsIn_succ]
      refine wpIn_mono (h ro n B0 own c1 hro h1 Γ0 Γ w0 w σ0 a hc hext) (fun e a' w' ⟨Γ', st', h3, h4, h5⟩ => ?_)
      cases e with
      | normal => exact ih st' Γ' w' a' h3 h4 h5
      | _ => exact ⟨Γ', st', h3, h4, h5⟩
  exact wpIn_loop_rounds (m + 1) (key m st Γ w a hc hext h)
def rdQ (P : Program) (N base : Nat) [Mix P] (x : LCode) (Q : Exit → St → Prop) : Nat → Exit → St → Prop
  | 0, .normal, _ => False
  | m + 1, .normal, st => wp P N base x st (rdQ P N base x Q m)
  | _, e, st => Q e st
/-- The loop ends within so many rounds and one. -/
theorem Sat.rd [Mix P] {x : LCode} {Q : Exit → St → Prop} (m : Nat) {st : St} (h : wp P N base x st (rdQ P N base x Q m)) : SatL P N base (.loop x) st Q := by
  have key : ∀ m st, wp P N base x st (rdQ P N base x Q m) → Sat P N base x.strip st (rdS P N base x.strip Q m) := by
    intro m
    induction m with
    | zero =>
      intro st h
      refine (Sat.of h).mono fun e st' h => ?_
      cases e with
      | normal => exact h
      | _ => exact h
    | succ m ih =>
      intro st h
      refine (Sat.of h).mono fun e st' h => ?_
      cases e with
      | normal => exact ih st' h
      | _ => exact h
  exact ⟨Sat.roundsN m (key m st h)⟩
end
end Go.Pw

set_option linter.unusedSimpArgs false
set_option linter.unusedVariables false
set_option maxHeartbeats 1000000
namespace Go.Pw
open Go.RowKit Go.Lib
set_option maxRecDepth 2000
open Go Go.Proofs A1 A2 A3 A4
theorem nmV_true {s : By} {d : Int} : nmV s d true = numV s d := by
  unfold nmV; cases numV s d <;> simp
theorem pvS_two {p : By} {a b : Int} (hl : (cutG 32 [] p).length = 2) (h1 : nmV ((cutG 32 [] p).getD 0 []) 5 true = some a) (h2 : nmV ((cutG 32 [] p).getD 1 []) 5 true = some b) : hdP p = some (a, b) := by
  rw [nmV_true] at h1 h2
  have : pvS 5 p = some [a, b] := by
    show pvL 5 (cutG 32 [] p) = _
    match h : cutG 32 [] p, hl with
    | [x, y], _ => rw [h] at h1 h2; simp only [pvL]; rw [show numV x 5 = some a from h1, show numV y 5 = some b from h2]
  unfold hdP; rw [this]
theorem hdP_no {p : By} (h : ¬ ((cutG 32 [] p).length = 2 ∧ (nmV ((cutG 32 [] p).getD 0 []) 5 true).isSome ∧ (nmV ((cutG 32 [] p).getD 1 []) 5 true).isSome)) : hdP p = none := by
  cases hh : hdP p with
  | none => rfl
  | some q =>
    obtain ⟨a, b⟩ := q
    have h1 : pvL 5 (cutG 32 [] p) = some [a, b] := hdP_y hh
    have hl := pvL_len h1
    refine absurd ?_ h
    rw [nmV_true, nmV_true]
    match h2 : cutG 32 [] p, hl with
    | [x, y], _ =>
      rw [h2] at h1
      simp only [pvL] at h1
      refine ⟨rfl, ?_, ?_⟩
      · show (numV x 5).isSome = true
        cases hx : numV x 5 with
        | none => rw [hx] at h1; simp at h1
        | some _ => rfl
      · show (numV y 5).isSome = true
        cases hx : numV y 5 with
        | none => rw [hx] at h1; cases numV x 5 <;> simp at h1
        | some _ => rfl
abbrev lit01 : C := .d (.sl 1 [[dI 0], [dI 1]].length fun i => [[dI 0], [dI 1]].getD i [])
theorem PFD.ri0 {P : Program} {f : FuncId} {args args' : List V} {v : V} (h : PFD P f args' v) (hr : RIs args args') : PFD P f args v :=
  ⟨h.h.1, h.h.2.1, fun Γ w us hs hn ha => h.h.2.2 Γ w us hs hn (hr.rep ha)⟩
theorem CEq.li_01 : CEq lit01 (ints [0, 1]) := CEq.sl rfl (fun i hi => by
  rcases i with _ | i
  · rfl
  rcases i with _ | i
  · rfl
  exact absurd hi (by simp only [List.length_cons, List.length_nil]; omega))
theorem k01 (n : Int) (h : (n ∈ ([0, 1] : List Int)) = True) : PFD Tryz.prog 186 [.c lit01, vi .i64 n] (vbl true) := by
  have h1 := C186 (l := [0, 1]) (n := n) (by decide)
  rw [show decide (n ∈ ([0, 1] : List Int)) = true by rw [decide_eq_true_eq]; rw [h]; trivial] at h1
  exact PFD.ri0 h1 (VEqs.ris ⟨.c _ _ CEq.li_01, .refl _, trivial⟩)
abbrev okV (b : Bool) : V := .c (match b with | true => .tru | false => .fls)
theorem fillH {p : By} (hp : p.length ≤ 60000) {X : C} {E0 : Ent} {R : V → Store → Nat → Prop}
    (h : ∀ ok a b nx, (nx = 3 ∨ nx = 14 ∨ nx = 25) → (ok = true → hdP p = some (a, b)) → (ok = false → hdP p = none) → R (okV ok) [(2, .box [.bp 1 0, .bp 1 1]), (1, .box [int a, int b, X]), (0, E0)] nx) :
    CallS Tryz.prog 95 [sv p, .c lit01, .c (.sb 2 2)] [(2, .box [.bp 1 0, .bp 1 1]), (1, .box [int 0, int 0, X]), (0, E0)] 3 R := by
  have hw := C94 (s := p) (c := 32) (Nat.le_trans hp (by decide))
  refine CallS.of fn95 rfl ?_
  by_cases hl : (cutG 32 [] p).length = 2
  · have k0 := k01 0 (by simp)
    have k1 := k01 1 (by simp)
    have hWx : ∀ x ∈ cutG 32 [] p, x.length ≤ 1000000 := fun x hx => by have := cut_len x hx; simp at this; omega
    obtain ⟨v0, e0, n0⟩ := C98 (s := (cutG 32 [] p).getD 0 []) (d := 5) (g := true) ⟨hWx _ (getD_mem [] (by omega)), by decide⟩
    obtain ⟨v1, e1, n1⟩ := C98 (s := (cutG 32 [] p).getD 1 []) (d := 5) (g := true) ⟨hWx _ (getD_mem [] (by omega)), by decide⟩
    have hy := @pvS_two p v0 v1 hl
    have hno := @hdP_no p
    generalize cutG 32 [] p = W at *
    clear hWx hp
    cases h0 : nmV (W.getD 0 []) 5 true with
    | none =>
      rw [h0] at n0 hno
      have hn := hno (fun h => (by cases h.2.1))
      (repeat' first | (refine Owe.same ?_; first | refine Owe.o ?_ | refine Owe.mk ?_ ?_) | (refine Fork.same ?_; (first | refine fkY ?_ | refine fkF ?_ | ((first | refine fkD ?_ ?_ | refine fkN ?_ ?_ | refine fkM ?_ ?_) <;> (intro h; try (exfalso; omega))))) | ((first | refine OpsL.same ?_ | refine OpsDL.same ?_); first | refine oK hw rfl rfl rfl ?_) | refine MvQ.stay ?_)
      refine Sat.rd 3 ?_
      (repeat' first | (refine Owe.same ?_; first | refine Owe.o ?_ | refine Owe.mk ?_ ?_) | (refine Fork.same ?_; (first | refine fkY ?_ | refine fkF ?_ | ((first | refine fkD ?_ ?_ | refine fkN ?_ ?_ | refine fkM ?_ ?_) <;> (intro h; try (exfalso; omega))))) | ((first | refine OpsL.same ?_ | refine OpsDL.same ?_); first | refine oK k0 rfl rfl rfl ?_ | refine oK n0 rfl rfl rfl ?_) | refine MvQ.stay ?_)
      exact h false 0 0 14 (by decide) (fun h => (by cases h)) (fun _ => hn)
    | some a =>
      cases h1 : nmV (W.getD 1 []) 5 true with
      | none =>
        rw [h0] at n0
        rw [h1] at n1 hno
        have hn := hno (fun h => (by cases h.2.2))
        (repeat' first | (refine Owe.same ?_; first | refine Owe.o ?_ | refine Owe.mk ?_ ?_) | (refine Fork.same ?_; (first | refine fkY ?_ | refine fkF ?_ | ((first | refine fkD ?_ ?_ | refine fkN ?_ ?_ | refine fkM ?_ ?_) <;> (intro h; try (exfalso; omega))))) | ((first | refine OpsL.same ?_ | refine OpsDL.same ?_); first | refine oK hw rfl rfl rfl ?_) | refine MvQ.stay ?_)
        refine Sat.rd 3 ?_
        (repeat' first | (refine Owe.same ?_; first | refine Owe.o ?_ | refine Owe.mk ?_ ?_) | (refine Fork.same ?_; (first | refine fkY ?_ | refine fkF ?_ | ((first | refine fkD ?_ ?_ | refine fkN ?_ ?_ | refine fkM ?_ ?_) <;> (intro h; try (exfalso; omega))))) | ((first | refine OpsL.same ?_ | refine OpsDL.same ?_); first | refine oK k0 rfl rfl rfl ?_ | refine oK n0 rfl rfl rfl ?_ | refine oK k1 rfl rfl rfl ?_ | refine oK n1 rfl rfl rfl ?_) | refine MvQ.stay ?_)
        exact h false v0 0 25 (by decide) (fun h => (by cases h)) (fun _ => hn)
      | some b =>
        rw [h0] at n0
        rw [h1] at n1
        have hn := hy (by rw [h0, e0 a h0]) (by rw [h1, e1 b h1])
        (repeat' first | (refine Owe.same ?_; first | refine Owe.o ?_ | refine Owe.mk ?_ ?_) | (refine Fork.same ?_; (first | refine fkY ?_ | refine fkF ?_ | ((first | refine fkD ?_ ?_ | refine fkN ?_ ?_ | refine fkM ?_ ?_) <;> (intro h; try (exfalso; omega))))) | ((first | refine OpsL.same ?_ | refine OpsDL.same ?_); first | refine oK hw rfl rfl rfl ?_) | refine MvQ.stay ?_)
        refine Sat.rd 3 ?_
        (repeat' first | (refine Owe.same ?_; first | refine Owe.o ?_ | refine Owe.mk ?_ ?_) | (refine Fork.same ?_; (first | refine fkY ?_ | refine fkF ?_ | ((first | refine fkD ?_ ?_ | refine fkN ?_ ?_ | refine fkM ?_ ?_) <;> (intro h; try (exfalso; omega))))) | ((first | refine OpsL.same ?_ | refine OpsDL.same ?_); first | refine oK k0 rfl rfl rfl ?_ | refine oK n0 rfl rfl rfl ?_ | refine oK k1 rfl rfl rfl ?_ | refine oK n1 rfl rfl rfl ?_) | refine MvQ.stay ?_)
        exact h true v0 v1 25 (by decide) (fun _ => hn) (fun h => (by cases h))
  · have hn := hdP_no (p := p) (fun h => hl h.1)
    generalize cutG 32 [] p = W at *
    (repeat' first | (refine Owe.same ?_; first | refine Owe.o ?_ | refine Owe.mk ?_ ?_) | (refine Fork.same ?_; (first | refine fkY ?_ | refine fkF ?_ | ((first | refine fkD ?_ ?_ | refine fkN ?_ ?_ | refine fkM ?_ ?_) <;> (intro h; try (exfalso; omega))))) | ((first | refine OpsL.same ?_ | refine OpsDL.same ?_); first | refine oK hw rfl rfl rfl ?_) | refine MvQ.stay ?_)
    exact h false 0 0 3 (by decide) (fun h => (by cases h)) (fun _ => hn)
end Go.Pw

set_option linter.unusedVariables false
set_option maxHeartbeats 2000000
set_option maxRecDepth 100000
namespace Go.Pw
open Go Go.Proofs
/-- slices.Chunk[[]string,string] -/
def lc97u : LCode :=
  (.seq (.region [⟨some 2, .box (.tmp 0), none⟩, ⟨some 3, .box (.tmp 1), none⟩, ⟨some 4, .mv (.const .nilFunc), none⟩]) (.seq (.seq (.region [⟨some 5, .load false 1 (.tmp 3), none⟩,
    ⟨some 6, .bin .lss (.tmp 5) (.const (.int .i64 1)), none⟩]) (.cond (.tmp 6) (.region [⟨some 7, .bad, none⟩, ⟨none, .bad, none⟩]) .skip)) (.seq (.region [⟨some 8, .mkfn 190
    [(.tmp 2), (.tmp 3)], none⟩, ⟨some 4, .mv (.tmp 8), none⟩]) .ret)))
theorem low97u : lowF Tryz.prog [] Tryz.f97 = some (9, lc97u.strip, [.tmp 4]) := by kernel_rfl
theorem fn97u : FnOk Tryz.prog 97 9 lc97u [.tmp 4] := ⟨Tryz.call97, [], _, Tryz.func97, low97u⟩
end Go.Pw

set_option linter.unusedSimpArgs false
set_option linter.unusedVariables false
set_option maxHeartbeats 1000000
namespace Go.Pw
open Go.RowKit Go.Lib
set_option maxRecDepth 2000
open Go Go.Proofs A1 A2 A3 A4
theorem C100 {r : Rg} : PFD Tryz.prog 100 [.agg [int r.1, int r.2]] (vbl (decide (r.1 > r.2))) := by
  refine pi1 fn100 ?_
  (repeat' first | (refine Owe.same ?_; first | refine Owe.o ?_ | refine Owe.mk ?_ ?_) | (refine Fork.same ?_; (first | refine fkD ?_ ?_ | refine fkN ?_ ?_ | refine fkM ?_ ?_) <;> intro h) | refine MvQ.stay ?_)
  (refine rqK rfl ?_; (repeat' first | exact rfl | (refine qS ?_; constructor)))
theorem C193 {g : FuncId} {f : Rg → Bool} (hg : ∀ x : Rg, PFD Tryz.prog g [.agg [int x.1, int x.2]] (vbl (f x))) {l : List Rg} : l.length ≤ 1000000 → PFD Tryz.prog 193 [.c (prs l), .c (.fn g [])] (vi .i64 (idxI f 0 l)) := fun hl => by
  refine pi1 fn193 ?_
  (repeat' first | (refine Owe.same ?_; first | refine Owe.o ?_ | refine Owe.mk ?_ ?_) | (refine Fork.same ?_; (first | refine fkD ?_ ?_ | refine fkN ?_ ?_ | refine fkM ?_ ?_) <;> intro h) | refine MvQ.stay ?_)
  refine Sat.lp0 (fun k : Nat => [(8, vi .i64 k), (7, vi .i64 l.length), (6, .c (prs l)), (0, .c (prs l)), (1, .c (.fn g []))]) (fun k => k ≤ l.length ∧ idxI f 0 l = idxI f k (l.drop k)) (fun k => l.length - k) 0 ⟨Nat.zero_le _, rfl⟩ (by ((first | refine qen ?_ | refine qvs ?_ | refine qeq ?_ | refine qst ?_ | refine qv ?_ | refine qc ?_ | refine qe ?_ | refine qcs ?_ | skip); (repeat' first | exact rfl | (refine qS ?_; constructor)))) ?_
  intro k hk
  (repeat' first | (refine Owe.same ?_; first | refine Owe.o ?_ | refine Owe.mk ?_ ?_) | (refine Fork.same ?_; (first | refine fkD ?_ ?_ | refine fkN ?_ ?_ | refine fkM ?_ ?_) <;> intro h) | ((first | refine OpsL.same ?_ | refine OpsDL.same ?_); first | refine pK (hg _) rfl rfl ?_) | refine MvQ.stay ?_)
  · have e := idxI_drop f (0, 0) l k (by omega)
    have h : f (l.getD k (0, 0)) = true := h
    rw [if_pos h, ← hk.2] at e
    (refine rqK rfl ?_; (repeat' first | exact rfl | (refine qS ?_; constructor))); rw [e]
  · have e := idxI_drop f (0, 0) l k (by omega)
    have h : ¬ f (l.getD k (0, 0)) = true := by rw [show f (l.getD k (0, 0)) = false from h]; simp
    rw [if_neg h, ← hk.2] at e
    exact again0 (k + 1) ⟨by omega, e⟩ (by omega) (by ((first | refine qen ?_ | refine qvs ?_ | refine qeq ?_ | refine qst ?_ | refine qv ?_ | refine qc ?_ | refine qe ?_ | refine qcs ?_ | skip); (repeat' first | exact rfl | (refine qS ?_; constructor))))
  · (refine rqK rfl ?_; (repeat' first | exact rfl | (refine qS ?_; constructor)))
    rw [hk.2, List.drop_of_length_le (by omega)]; rfl
abbrev gtP (x : Rg) : Bool := decide (x.1 > x.2)
theorem C99 {l : List Rg} : l.length ≤ 1000000 → PFD Tryz.prog 99 [.c (prs l), .c (.fn 100 [])] (vbl (decide (∃ x ∈ l, x.1 > x.2))) := fun hl => by
  have c1 := C193 (fun x => C100 (r := x)) hl
  have h : (0 ≤ idxI gtP 0 l) ↔ ∃ x ∈ l, x.1 > x.2 := by rw [idxI_nn]; simp [gtP]
  refine pi1 fn99 ?_
  (repeat' first | (refine Owe.same ?_; first | refine Owe.o ?_ | refine Owe.mk ?_ ?_) | (refine Fork.same ?_; (first | refine fkD ?_ ?_ | refine fkN ?_ ?_ | refine fkM ?_ ?_) <;> intro h) | ((first | refine OpsL.same ?_ | refine OpsDL.same ?_); first | refine pK c1 rfl rfl ?_) | refine MvQ.stay ?_)
  (refine rqK rfl ?_; (repeat' first | exact rfl | (refine qS ?_; constructor)))
  rw [decide_eq_decide]; exact h
theorem C15 {s : By} : s.length ≤ 100000 → PFD Tryz.prog 15 [sv s] (.tup [.c (prs (bxE s).1), vi .i64 (bxE s).2]) := fun hs => by
  have hz : (bs s).size = s.length := bs_size s
  by_cases hb : 60000 < s.length
  · rw [show bxE s = ([], 8) by unfold bxE; rw [if_pos hb]]
    refine pi2 fn15 ?_
    (repeat' first | (refine Owe.same ?_; first | refine Owe.o ?_ | refine Owe.mk ?_ ?_) | (refine Fork.same ?_; (first | refine fkD ?_ ?_ | refine fkN ?_ ?_ | refine fkM ?_ ?_) <;> (intro h; try (exfalso; omega))) | refine MvQ.stay ?_)
    (refine rqK rfl ?_; (repeat' first | exact rfl | (refine qS ?_; constructor)))
  by_cases h0 : s = []
  · rw [show bxE s = ([], 0) by unfold bxE; rw [if_neg hb, if_pos h0]]
    subst h0
    refine pi2 fn15 ?_
    (repeat' first | (refine Owe.same ?_; first | refine Owe.o ?_ | refine Owe.mk ?_ ?_) | (refine Fork.same ?_; (first | refine fkD ?_ ?_ | refine fkN ?_ ?_ | refine fkM ?_ ?_) <;> (intro h; try (exfalso; omega))) | refine MvQ.stay ?_)
    · (refine rqK rfl ?_; (repeat' first | exact rfl | (refine qS ?_; constructor)))
    · rename_i h; exact absurd rfl h
  have hne : ¬ (bs s).data.toList = (ByteArray.mk #[]).data.toList := fun h => h0 (by simpa [bs] using h)
  have h94 := C94 (s := s) (c := 32) (by omega)
  have hPl := cut_count (c := 32) (l := s) (acc := [])
  have hPx : Hd (∀ x ∈ cutG 32 [] s, x.length ≤ 60000) := ⟨fun x hx => by have := cut_len x hx; simp at this; omega⟩
  have hE1 : pvL 2 (cutG 32 [] s) = none → bxE s = ([], 7) := fun h => by
    unfold bxE; rw [if_neg hb, if_neg h0, show pvS 2 s = none from h]
  have hE2 : ∀ v, pvL 2 (cutG 32 [] s) = some v → bxE s = bxV v := fun v h => by
    unfold bxE; rw [if_neg hb, if_neg h0, show pvS 2 s = some v from h]
  generalize bxE s = B at *
  generalize cutG 32 [] s = W at *
  by_cases h2 : W.length % 2 ≠ 0
  · have hB : B = ([], 7) := by
      cases hv : pvL 2 W with
      | none => exact hE1 hv
      | some v => rw [hE2 v hv]; unfold bxV; rw [pvL_len hv, if_pos h2]
    rw [hB]
    have htm : (W.length : Int).tmod 2 = ((W.length % 2 : Nat) : Int) := rfl
    refine pi2 fn15 ?_
    (repeat' first | (refine Owe.same ?_; first | refine Owe.o ?_ | refine Owe.mk ?_ ?_) | (refine Fork.same ?_; (first | refine fkY ?_ | refine fkF ?_ | ((first | refine fkD ?_ ?_ | refine fkN ?_ ?_ | refine fkM ?_ ?_) <;> (intro h; try (exfalso; omega))))) | ((first | refine OpsL.same ?_ | refine OpsDL.same ?_); first | refine oK h94 rfl rfl rfl ?_) | refine MvQ.stay ?_)
    (refine rqK rfl ?_; (repeat' first | exact rfl | (refine qS ?_; constructor)))
  · have htm : (W.length : Int).tmod 2 = ((W.length % 2 : Nat) : Int) := rfl
    refine pi2 fn15 ?_
    (repeat' first | (refine Owe.same ?_; first | refine Owe.o ?_ | refine Owe.mk ?_ ?_) | (refine Fork.same ?_; (first | refine fkY ?_ | refine fkF ?_ | ((first | refine fkD ?_ ?_ | refine fkN ?_ ?_ | refine fkM ?_ ?_) <;> (intro h; try (exfalso; omega))))) | ((first | refine OpsL.same ?_ | refine OpsDL.same ?_); first | refine oK h94 rfl rfl rfl ?_) | refine MvQ.stay ?_)
    refine Ops.cs rfl rfl (CallS.of fn97u rfl ?_)
    (repeat' first | (refine Owe.same ?_; first | refine Owe.o ?_ | refine Owe.mk ?_ ?_) | (refine Fork.same ?_; (first | refine fkD ?_ ?_ | refine fkN ?_ ?_ | refine fkM ?_ ?_) <;> (intro h; try (exfalso; omega))) | refine MvQ.stay ?_)
    refine Sat.keep [2, 3, 4, 5, 23] ?_
    refine Sat.rf rfl rfl (CallS.of fn190 rfl ?_)
    (repeat' first | (refine Owe.same ?_; first | refine Owe.o ?_ | refine Owe.mk ?_ ?_) | (refine Fork.same ?_; (first | refine fkD ?_ ?_ | refine fkN ?_ ?_ | refine fkM ?_ ?_) <;> (intro h; try (exfalso; omega))) | refine MvQ.stay ?_)
    refine Sat.nilB 2 0 82 2 (fun i => r2 (([] : List Rg).getD i (0, 0))) rfl rfl ?_
    refine Sat.lp (fun st : Nat × List Rg => ⟨[(0, .c (.yd 5)), (1, .c (.bp 3 0)), (2, .c (.bp 4 0)), (4, vi .i64 (2 * (st.1 : Int)))],
        [(0, .box [.d (.v (.slice none 0 0))]), (1, .box [int 0]), (2, .box [.ms 6 st.2.length]), (3, .box [sts W]), (4, .box [int 2]),
         (5, .lp [(2, .c (.bp 0 0)), (3, .c (.bp 1 0)), (4, .c (.bp 2 0)), (5, .c (sts W)), (23, .c (.fn 190 [3, 4]))] .ready none (RR Tryz.prog 54 [24] ra15 rb15)), (6, rowv 82 2 r2 (0, 0) st.2)], 7⟩)
      (fun st : Nat × List Rg => (st.1 ≤ W.length / 2 ∧ st.2.length = st.1) ∧ Hd (pvL 2 (W.take (2 * st.1)) = some (fl2 st.2))) (fun st : Nat × List Rg => W.length / 2 - st.1) (0, []) [6] ⟨⟨Nat.zero_le _, rfl⟩, ⟨rfl⟩⟩ ?_ ?_
    · (refine qis ?_ ?_ <;> (repeat' first | exact rfl | (refine qS ?_; constructor)))
    · rintro ⟨k, acc⟩ ⟨⟨hk, hal⟩, ha⟩
      simp only at hk hal ha
      refine Fork.dec (fun hlt => ?_) (fun hlt => ?_)
      · have hlt : k < W.length / 2 := by have : 2 * (k : Int) < W.length := hlt; omega
        (repeat' first | (refine Owe.same ?_; first | refine Owe.o ?_ | refine Owe.mk ?_ ?_) | (refine Fork.same ?_; (first | refine fkD ?_ ?_ | refine fkN ?_ ?_ | refine fkM ?_ ?_) <;> (intro h; try (exfalso; omega))) | refine MvQ.stay ?_)
        have hlen2 : 2 * k + 1 < W.length := by omega
        have e1 : (2 * (k : Int)).toNat = 2 * k := by omega
        refine OpsL.as 28 (.c (sts [W.getD (2 * k) [], W.getD (2 * k + 1) []])) ?_ ?_
        · refine VEq.c _ _ (CEq.sl ?_ (fun i hi => ?_))
          · show (2 * (k : Int) + min 2 ((W.length - (2 * (k : Int)).toNat : Nat) : Int)).toNat - (2 * (k : Int)).toNat = 2
            omega
          · have hi : i < (2 * (k : Int) + min 2 ((W.length - (2 * (k : Int)).toNat : Nat) : Int)).toNat - (2 * (k : Int)).toNat := hi
            show rS (W.getD ((2 * (k : Int)).toNat + i) []) = rS ([W.getD (2 * k) [], W.getD (2 * k + 1) []].getD i [])
            rw [e1]
            have : i = 0 ∨ i = 1 := by omega
            rcases this with rfl | rfl <;> rfl
        have p1 := hPx.h _ (getD_mem (l := W) [] (show 2 * k < W.length by omega))
        have p2 := hPx.h _ (getD_mem (l := W) [] hlen2)
        obtain ⟨v0, e0, n0⟩ := C98 (s := W.getD (2 * k) []) (d := 2) (g := true) ⟨Nat.le_trans p1 (by decide), by decide⟩
        obtain ⟨v1, ev1, n1⟩ := C98 (s := W.getD (2 * k + 1) []) (d := 2) (g := true) ⟨Nat.le_trans p2 (by decide), by decide⟩
        rw [nmV_true] at e0 n0 ev1 n1
        cases h3 : numV (W.getD (2 * k) []) 2 with
        | none =>
          rw [h3] at n0
          rw [hE1 (pvL_take (by omega) h3)]
          refine Ops.yd rfl rfl rfl rfl rfl ?_
          (repeat' first | (refine Owe.same ?_; first | refine Owe.o ?_ | refine Owe.mk ?_ ?_) | (refine Fork.same ?_; (first | refine fkD ?_ ?_ | refine fkN ?_ ?_ | refine fkM ?_ ?_) <;> (intro h; try (exfalso; omega))) | refine MvQ.stay ?_)
          refine And.intro rfl (Exists.intro _ (And.intro rfl ?_))
          (repeat' first | (refine Owe.same ?_; first | refine Owe.o ?_ | refine Owe.mk ?_ ?_) | (refine Fork.same ?_; (first | refine fkY ?_ | refine fkF ?_ | ((first | refine fkD ?_ ?_ | refine fkN ?_ ?_ | refine fkM ?_ ?_) <;> (intro h; try (exfalso; omega))))) | ((first | refine OpsL.same ?_ | refine OpsDL.same ?_); first | refine oK n0 rfl rfl rfl ?_ | refine oK n1 rfl rfl rfl ?_) | refine MvQ.stay ?_)
          refine Exists.intro _ (Exists.intro _ (Exists.intro _ (And.intro rfl ?_)))
          (repeat' first | (refine Owe.same ?_; first | refine Owe.o ?_ | refine Owe.mk ?_ ?_) | (refine Fork.same ?_; (first | refine fkD ?_ ?_ | refine fkN ?_ ?_ | refine fkM ?_ ?_) <;> (intro h; try (exfalso; omega))) | refine MvQ.stay ?_)
          (refine rqK rfl ?_; (repeat' first | exact rfl | (refine qS ?_; constructor)))
        | some a =>
          cases h4 : numV (W.getD (2 * k + 1) []) 2 with
          | none =>
            rw [h3] at n0
            rw [h4] at n1
            rw [hE1 (pvL_take hlen2 h4)]
            refine Ops.yd rfl rfl rfl rfl rfl ?_
            (repeat' first | (refine Owe.same ?_; first | refine Owe.o ?_ | refine Owe.mk ?_ ?_) | (refine Fork.same ?_; (first | refine fkD ?_ ?_ | refine fkN ?_ ?_ | refine fkM ?_ ?_) <;> (intro h; try (exfalso; omega))) | refine MvQ.stay ?_)
            refine And.intro rfl (Exists.intro _ (And.intro rfl ?_))
            (repeat' first | (refine Owe.same ?_; first | refine Owe.o ?_ | refine Owe.mk ?_ ?_) | (refine Fork.same ?_; (first | refine fkY ?_ | refine fkF ?_ | ((first | refine fkD ?_ ?_ | refine fkN ?_ ?_ | refine fkM ?_ ?_) <;> (intro h; try (exfalso; omega))))) | ((first | refine OpsL.same ?_ | refine OpsDL.same ?_); first | refine oK n0 rfl rfl rfl ?_ | refine oK n1 rfl rfl rfl ?_) | refine MvQ.stay ?_)
            refine Exists.intro _ (Exists.intro _ (Exists.intro _ (And.intro rfl ?_)))
            (repeat' first | (refine Owe.same ?_; first | refine Owe.o ?_ | refine Owe.mk ?_ ?_) | (refine Fork.same ?_; (first | refine fkD ?_ ?_ | refine fkN ?_ ?_ | refine fkM ?_ ?_) <;> (intro h; try (exfalso; omega))) | refine MvQ.stay ?_)
            (refine rqK rfl ?_; (repeat' first | exact rfl | (refine qS ?_; constructor)))
          | some b =>
            rw [e0 a h3, h3] at n0
            rw [ev1 b h4, h4] at n1
            have hn1 : pvL 2 (W.take (2 * (k + 1))) = some (fl2 (acc ++ [(a, b)])) := by
              rw [show 2 * (k + 1) = 2 * k + 1 + 1 by omega, tk1 [] hlen2, tk1 [] (show 2 * k < W.length by omega), pvL_app (by rw [pvL_app ha.h, h3]), h4, fl2_app]
              simp
            have hn1 := Hd.mk hn1
            refine Ops.yd rfl rfl rfl rfl rfl ?_
            (repeat' first | (refine Owe.same ?_; first | refine Owe.o ?_ | refine Owe.mk ?_ ?_) | (refine Fork.same ?_; (first | refine fkD ?_ ?_ | refine fkN ?_ ?_ | refine fkM ?_ ?_) <;> (intro h; try (exfalso; omega))) | refine MvQ.stay ?_)
            refine And.intro rfl (Exists.intro _ (And.intro rfl ?_))
            (repeat' first | (refine Owe.same ?_; first | refine Owe.o ?_ | refine Owe.mk ?_ ?_) | (refine Fork.same ?_; (first | refine fkY ?_ | refine fkF ?_ | ((first | refine fkD ?_ ?_ | refine fkN ?_ ?_ | refine fkM ?_ ?_) <;> (intro h; try (exfalso; omega))))) | ((first | refine OpsL.same ?_ | refine OpsDL.same ?_); first | refine oK n0 rfl rfl rfl ?_ | refine oK n1 rfl rfl rfl ?_) | refine MvQ.stay ?_)
            refine Exists.intro _ (Exists.intro _ (Exists.intro _ (And.intro rfl ?_)))
            (repeat' first | (refine Owe.same ?_; first | refine Owe.o ?_ | refine Owe.mk ?_ ?_) | (refine Fork.same ?_; (first | refine fkD ?_ ?_ | refine fkN ?_ ?_ | refine fkM ?_ ?_) <;> (intro h; try (exfalso; omega))) | refine MvQ.stay ?_)
            refine again (k + 1, acc ++ [(a, b)]) [14] ⟨⟨hlt, by simp; omega⟩, hn1⟩ (by show W.length / 2 - (k + 1) < W.length / 2 - k; omega) ?_
            (refine qis ?_ ?_ <;> (repeat' first | exact rfl | (refine qS ?_; constructor)))
            · simp
      · have hk1 : k = W.length / 2 := by have : ¬ 2 * (k : Int) < W.length := hlt; omega
        have hp : pvL 2 W = some (fl2 acc) := by
          have := ha.h
          rw [show 2 * k = W.length by omega, List.take_length] at this; exact this
        have hal2 : acc.length ≤ 1000000 := by omega
        have hfl := fl2_len acc
        have c99 := C99 (l := acc) hal2
        rw [hE2 _ hp]
        by_cases ho : ∃ x ∈ acc, x.1 > x.2
        · rw [decide_eq_true ho] at c99
          rw [show bxV (fl2 acc) = ([], 9) by
            unfold bxV
            rw [if_neg (by omega), if_neg]
            intro hh
            obtain ⟨r, hr, hg⟩ := ho
            obtain ⟨i, hi, rfl⟩ := List.getElem_of_mem hr
            have h1 := hh i (by omega)
            have h2 := fl2_get acc i hi
            simp only [twF] at h1
            rw [h2.1, h2.2, List.getD_eq_getElem?_getD, List.getElem?_eq_getElem hi] at h1
            simp only [Option.getD_some] at h1
            omega]
          (repeat' first | (refine Owe.same ?_; first | refine Owe.o ?_ | refine Owe.mk ?_ ?_) | (refine Fork.same ?_; (first | refine fkD ?_ ?_ | refine fkN ?_ ?_ | refine fkM ?_ ?_) <;> (intro h; try (exfalso; omega))) | refine MvQ.stay ?_)
          refine OpsL.frz 51 _ rfl rfl (Nat.le_refl _) ?_
          (repeat' first | (refine Owe.same ?_; first | refine Owe.o ?_ | refine Owe.mk ?_ ?_) | (refine Fork.same ?_; (first | refine fkY ?_ | refine fkF ?_ | ((first | refine fkD ?_ ?_ | refine fkN ?_ ?_ | refine fkM ?_ ?_) <;> (intro h; try (exfalso; omega))))) | ((first | refine OpsL.same ?_ | refine OpsDL.same ?_); first | refine oK c99 rfl rfl rfl ?_) | refine MvQ.stay ?_)
          (refine rqK rfl ?_; (repeat' first | exact rfl | (refine qS ?_; constructor)))
        · rw [decide_eq_false ho] at c99
          rw [show bxV (fl2 acc) = (acc, 0) by
            unfold bxV
            rw [if_neg (by omega), if_pos, twos_fl2]
            intro i hi
            have h2 := fl2_get acc i (by omega)
            simp only [twF]
            rw [h2.1, h2.2]
            have := getD_mem (l := acc) (0, 0) (show i < acc.length by omega)
            exact Int.not_lt.1 fun hg => ho ⟨_, this, hg⟩]
          (repeat' first | (refine Owe.same ?_; first | refine Owe.o ?_ | refine Owe.mk ?_ ?_) | (refine Fork.same ?_; (first | refine fkD ?_ ?_ | refine fkN ?_ ?_ | refine fkM ?_ ?_) <;> (intro h; try (exfalso; omega))) | refine MvQ.stay ?_)
          refine OpsL.frz 51 _ rfl rfl (Nat.le_refl _) ?_
          refine OpsL.frzX 2 0 6 rfl rfl rfl (Nat.le_refl _) ?_
          (repeat' first | (refine Owe.same ?_; first | refine Owe.o ?_ | refine Owe.mk ?_ ?_) | (refine Fork.same ?_; (first | refine fkY ?_ | refine fkF ?_ | ((first | refine fkD ?_ ?_ | refine fkN ?_ ?_ | refine fkM ?_ ?_) <;> (intro h; try (exfalso; omega))))) | ((first | refine OpsL.same ?_ | refine OpsDL.same ?_); first | refine oK c99 rfl rfl rfl ?_) | refine MvQ.stay ?_)
          (refine rqK rfl ?_; (repeat' first | exact rfl | (refine qS ?_; constructor)))
end Go.Pw

set_option linter.unusedSimpArgs false
set_option linter.unusedVariables false
set_option maxHeartbeats 1000000
namespace Go.Pw
open Go.RowKit Go.Lib
set_option maxRecDepth 2000
open Go Go.Proofs A1 A2 A3 A4
theorem tr_eqB {a b : Tr3} : (decide (a.1 = b.1) && decide (a.2.1 = b.2.1) && decide (a.2.2 = b.2.2)) = decide (a = b) := by
  rw [Bool.eq_iff_iff]; simp [Prod.ext_iff, and_assoc]
theorem C20 {x z u v : Int} {l m : List Tr3} : l.length < 4611686018427387904 → PFD Tryz.prog 20 [.agg [int x, int z, trs l], .agg [int u, int v, trs m]] (vbl (decide ((x, z, l) = (u, v, m)))) := fun hl => by
  refine pi1 fn20 ?_
  (repeat' first | (refine Owe.same ?_; first | refine Owe.o ?_ | refine Owe.mk ?_ ?_) | (refine Fork.same ?_; (first | refine fkD ?_ ?_ | refine fkN ?_ ?_ | refine fkM ?_ ?_) <;> intro h) | refine MvQ.stay ?_)
  · rw [pair_eq (p := (x, z)) (q := (u, v))] at h
    (refine rqK rfl ?_; (repeat' first | exact rfl | (refine qS ?_; constructor))); simp only [decide_eq_false_iff_not]; intro he; simp only [Prod.mk.injEq] at he
    simp at h; exact h.elim (fun h => h he.1) (fun h => h he.2.1)
  · (refine rqK rfl ?_; (repeat' first | exact rfl | (refine qS ?_; constructor))); simp only [decide_eq_false_iff_not]; intro he; simp only [Prod.mk.injEq] at he; obtain ⟨_, _, rfl⟩ := he; exact h rfl
  · rename_i h1
    rw [pair_eq (p := (x, z)) (q := (u, v))] at h1
    have h1 : x = u ∧ z = v := by simpa using h1
    have hlm : l.length = m.length := by omega
    (repeat' first | (refine Owe.same ?_; first | refine Owe.o ?_ | refine Owe.mk ?_ ?_) | (refine Fork.same ?_; (first | refine fkD ?_ ?_ | refine fkN ?_ ?_ | refine fkM ?_ ?_) <;> intro h) | refine MvQ.stay ?_)
    refine Sat.lp0 (fun k : Nat => [(5, vi .i64 k), (2, .c (.rp (lnD x z l))), (3, .c (.rp (lnD u v m)))]) (fun k => k ≤ l.length ∧ ∀ i, i < k → l.getD i (0, 0, 0) = m.getD i (0, 0, 0)) (fun k => l.length - k) 0 ⟨Nat.zero_le _, fun i hi => by omega⟩ (by ((first | refine qen ?_ | refine qvs ?_ | refine qeq ?_ | refine qst ?_ | refine qv ?_ | refine qc ?_ | refine qe ?_ | refine qcs ?_ | skip); (repeat' first | exact rfl | (refine qS ?_; constructor)))) ?_
    intro k hk
    (repeat' first | (refine Owe.same ?_; first | refine Owe.o ?_ | refine Owe.mk ?_ ?_) | (refine Fork.same ?_; (first | refine fkD ?_ ?_ | refine fkN ?_ ?_ | refine fkM ?_ ?_) <;> intro h) | refine MvQ.stay ?_)
    · rw [tr_eqB] at h
      (refine rqK rfl ?_; (repeat' first | exact rfl | (refine qS ?_; constructor))); simp only [decide_eq_false_iff_not]; intro he; simp only [Prod.mk.injEq] at he; obtain ⟨_, _, rfl⟩ := he; simp at h
    · rw [tr_eqB] at h
      refine again0 (k + 1) ⟨by omega, fun i hi => ?_⟩ (by omega) (by ((first | refine qen ?_ | refine qvs ?_ | refine qeq ?_ | refine qst ?_ | refine qv ?_ | refine qc ?_ | refine qe ?_ | refine qcs ?_ | skip); (repeat' first | exact rfl | (refine qS ?_; constructor))))
      rcases Nat.lt_succ_iff_lt_or_eq.1 hi with h3 | rfl
      · exact hk.2 i h3
      · simpa using h
    · (refine rqK rfl ?_; (repeat' first | exact rfl | (refine qS ?_; constructor))); simp only [decide_eq_true_eq]
      rw [h1.1, h1.2, ext_getD (0, 0, 0) hlm fun i hi => hk.2 i (by omega)]
end Go.Pw

set_option linter.unusedSimpArgs false
set_option linter.unusedVariables false
set_option maxHeartbeats 1000000
namespace Go.Pw
open Go.RowKit Go.Lib
set_option maxRecDepth 2000
open Go Go.Proofs A1 A2 A3 A4
theorem nmV_false {s : By} {d n : Int} : nmV s d false = some n ↔ numV s d = some n ∧ 0 ≤ n := by
  unfold nmV
  cases h : numV s d with
  | none => simp
  | some m => simp only [Bool.false_eq_true, false_or]; split <;> simp <;> omega
theorem pvS_three {p : By} {a b c : Int} (hl : (cutG 32 [] p).length = 3) (h1 : nmV ((cutG 32 [] p).getD 0 []) 5 false = some a) (h2 : nmV ((cutG 32 [] p).getD 1 []) 5 true = some b) (h3 : nmV ((cutG 32 [] p).getD 2 []) 5 false = some c) : lkP p = some (a, b, c) := by
  rw [nmV_true] at h2
  rw [nmV_false] at h1 h3
  have : pvS 5 p = some [a, b, c] := by
    show pvL 5 (cutG 32 [] p) = _
    match h : cutG 32 [] p, hl with
    | [x, y, z], _ => rw [h] at h1 h2 h3; simp only [pvL]; rw [show numV x 5 = some a from h1.1, show numV y 5 = some b from h2, show numV z 5 = some c from h3.1]
  unfold lkP; rw [this]; simp [h1.2, h3.2]
theorem lkP_no {p : By} (h : ¬ ((cutG 32 [] p).length = 3 ∧ (nmV ((cutG 32 [] p).getD 0 []) 5 false).isSome ∧ (nmV ((cutG 32 [] p).getD 1 []) 5 true).isSome ∧ (nmV ((cutG 32 [] p).getD 2 []) 5 false).isSome)) : lkP p = none := by
  cases hh : lkP p with
  | none => rfl
  | some q =>
    obtain ⟨h1, h2, h3⟩ := lkP_y hh
    have h1 : pvL 5 (cutG 32 [] p) = some [q.1, q.2.1, q.2.2] := h1
    have hl := pvL_len h1
    refine absurd ?_ h
    rw [nmV_true]
    match hc : cutG 32 [] p, hl with
    | [x, y, z], _ =>
      rw [hc] at h1
      simp only [pvL] at h1
      cases hx : numV x 5 with
      | none => rw [hx] at h1; simp at h1
      | some a =>
        cases hy : numV y 5 with
        | none => rw [hx, hy] at h1; simp at h1
        | some b =>
          cases hz : numV z 5 with
          | none => rw [hx, hy, hz] at h1; simp at h1
          | some c =>
            rw [hx, hy, hz] at h1
            simp only [Option.some.injEq, List.cons.injEq, and_true] at h1
            refine ⟨rfl, ?_, ?_, ?_⟩
            · show (nmV x 5 false).isSome = true
              rw [nmV_false.2 ⟨hx, by omega⟩]; rfl
            · show (numV y 5).isSome = true
              rw [hy]; rfl
            · show (nmV z 5 false).isSome = true
              rw [nmV_false.2 ⟨hz, by omega⟩]; rfl
abbrev lit1 : C := .d (.sl 1 [[dI 1]].length fun i => [[dI 1]].getD i [])
theorem CEq.li_one : CEq lit1 (ints [1]) := CEq.sl rfl (fun i hi => by
  rcases i with _ | i
  · rfl
  exact absurd hi (by simp only [List.length_cons, List.length_nil]; omega))
theorem k1g (n : Int) (g : Bool) (h : decide (n ∈ ([1] : List Int)) = g) : PFD Tryz.prog 186 [.c lit1, vi .i64 n] (vbl g) := by
  have h1 := C186 (l := [1]) (n := n) (by decide)
  rw [h] at h1
  exact PFD.ri0 h1 (VEqs.ris ⟨.c _ _ CEq.li_one, .refl _, trivial⟩)
theorem fillL {p : By} (hp : p.length ≤ 60000) {E0 E1 E2 : Ent} {R : V → Store → Nat → Prop}
    (h : ∀ ok a b c nx, (nx = 5 ∨ nx = 16 ∨ nx = 27 ∨ nx = 38) → (ok = true → lkP p = some (a, b, c)) → (ok = false → lkP p = none) → R (okV ok) ((4, .box [.bp 3 0, .bp 3 1, .bp 3 2]) :: (3, .box [int a, int b, int c]) :: [(0, E0), (1, E1), (2, E2)]) nx) :
    CallS Tryz.prog 95 [sv p, .c lit1, .c (.sb 4 3)] ((4, .box [.bp 3 0, .bp 3 1, .bp 3 2]) :: (3, .box [int 0, int 0, int 0]) :: [(0, E0), (1, E1), (2, E2)]) 5 R := by
  have hw := C94 (s := p) (c := 32) (Nat.le_trans hp (by decide))
  refine CallS.of fn95 rfl ?_
  by_cases hl : (cutG 32 [] p).length = 3
  · have k0 := k1g 0 false (by decide)
    have k1 := k1g 1 true (by decide)
    have k2 := k1g 2 false (by decide)
    have hWx : ∀ x ∈ cutG 32 [] p, x.length ≤ 1000000 := fun x hx => by have := cut_len x hx; simp at this; omega
    obtain ⟨v0, e0, n0⟩ := C98 (s := (cutG 32 [] p).getD 0 []) (d := 5) (g := false) ⟨hWx _ (getD_mem [] (by omega)), by decide⟩
    obtain ⟨v1, e1, n1⟩ := C98 (s := (cutG 32 [] p).getD 1 []) (d := 5) (g := true) ⟨hWx _ (getD_mem [] (by omega)), by decide⟩
    obtain ⟨v2, e2, n2⟩ := C98 (s := (cutG 32 [] p).getD 2 []) (d := 5) (g := false) ⟨hWx _ (getD_mem [] (by omega)), by decide⟩
    have hy := @pvS_three p v0 v1 v2 hl
    have hno := @lkP_no p
    generalize cutG 32 [] p = W at *
    clear hWx hp
    cases h0 : nmV (W.getD 0 []) 5 false with
    | none =>
      rw [h0] at n0 hno
      have hn := hno (fun h => (by cases h.2.1))
      (repeat' first | (refine Owe.same ?_; first | refine Owe.o ?_ | refine Owe.mk ?_ ?_) | (refine Fork.same ?_; (first | refine fkY ?_ | refine fkF ?_ | ((first | refine fkD ?_ ?_ | refine fkN ?_ ?_ | refine fkM ?_ ?_) <;> (intro h; try (exfalso; omega))))) | ((first | refine OpsL.same ?_ | refine OpsDL.same ?_); first | refine oK hw rfl rfl rfl ?_) | refine MvQ.stay ?_)
      refine Sat.rd 4 ?_
      (repeat' first | (refine Owe.same ?_; first | refine Owe.o ?_ | refine Owe.mk ?_ ?_) | (refine Fork.same ?_; (first | refine fkY ?_ | refine fkF ?_ | ((first | refine fkD ?_ ?_ | refine fkN ?_ ?_ | refine fkM ?_ ?_) <;> (intro h; try (exfalso; omega))))) | ((first | refine OpsL.same ?_ | refine OpsDL.same ?_); first | refine oK k0 rfl rfl rfl ?_ | refine oK n0 rfl rfl rfl ?_) | refine MvQ.stay ?_)
      exact h false 0 0 0 16 (by decide) (fun h => (by cases h)) (fun _ => hn)
    | some a =>
      rw [h0] at n0
      cases h1 : nmV (W.getD 1 []) 5 true with
      | none =>
        rw [h1] at n1 hno
        have hn := hno (fun h => (by cases h.2.2.1))
        (repeat' first | (refine Owe.same ?_; first | refine Owe.o ?_ | refine Owe.mk ?_ ?_) | (refine Fork.same ?_; (first | refine fkY ?_ | refine fkF ?_ | ((first | refine fkD ?_ ?_ | refine fkN ?_ ?_ | refine fkM ?_ ?_) <;> (intro h; try (exfalso; omega))))) | ((first | refine OpsL.same ?_ | refine OpsDL.same ?_); first | refine oK hw rfl rfl rfl ?_) | refine MvQ.stay ?_)
        refine Sat.rd 4 ?_
        (repeat' first | (refine Owe.same ?_; first | refine Owe.o ?_ | refine Owe.mk ?_ ?_) | (refine Fork.same ?_; (first | refine fkY ?_ | refine fkF ?_ | ((first | refine fkD ?_ ?_ | refine fkN ?_ ?_ | refine fkM ?_ ?_) <;> (intro h; try (exfalso; omega))))) | ((first | refine OpsL.same ?_ | refine OpsDL.same ?_); first | refine oK k0 rfl rfl rfl ?_ | refine oK n0 rfl rfl rfl ?_ | refine oK k1 rfl rfl rfl ?_ | refine oK n1 rfl rfl rfl ?_) | refine MvQ.stay ?_)
        exact h false v0 0 0 27 (by decide) (fun h => (by cases h)) (fun _ => hn)
      | some b =>
        rw [h1] at n1
        cases h2 : nmV (W.getD 2 []) 5 false with
        | none =>
          rw [h2] at n2 hno
          have hn := hno (fun h => (by cases h.2.2.2))
          (repeat' first | (refine Owe.same ?_; first | refine Owe.o ?_ | refine Owe.mk ?_ ?_) | (refine Fork.same ?_; (first | refine fkY ?_ | refine fkF ?_ | ((first | refine fkD ?_ ?_ | refine fkN ?_ ?_ | refine fkM ?_ ?_) <;> (intro h; try (exfalso; omega))))) | ((first | refine OpsL.same ?_ | refine OpsDL.same ?_); first | refine oK hw rfl rfl rfl ?_) | refine MvQ.stay ?_)
          refine Sat.rd 4 ?_
          (repeat' first | (refine Owe.same ?_; first | refine Owe.o ?_ | refine Owe.mk ?_ ?_) | (refine Fork.same ?_; (first | refine fkY ?_ | refine fkF ?_ | ((first | refine fkD ?_ ?_ | refine fkN ?_ ?_ | refine fkM ?_ ?_) <;> (intro h; try (exfalso; omega))))) | ((first | refine OpsL.same ?_ | refine OpsDL.same ?_); first | refine oK k0 rfl rfl rfl ?_ | refine oK n0 rfl rfl rfl ?_ | refine oK k1 rfl rfl rfl ?_ | refine oK n1 rfl rfl rfl ?_ | refine oK k2 rfl rfl rfl ?_ | refine oK n2 rfl rfl rfl ?_) | refine MvQ.stay ?_)
          exact h false v0 v1 0 38 (by decide) (fun h => (by cases h)) (fun _ => hn)
        | some c =>
          rw [h2] at n2
          have hn := hy (by rw [h0, e0 a h0]) (by rw [h1, e1 b h1]) (by rw [h2, e2 c h2])
          (repeat' first | (refine Owe.same ?_; first | refine Owe.o ?_ | refine Owe.mk ?_ ?_) | (refine Fork.same ?_; (first | refine fkY ?_ | refine fkF ?_ | ((first | refine fkD ?_ ?_ | refine fkN ?_ ?_ | refine fkM ?_ ?_) <;> (intro h; try (exfalso; omega))))) | ((first | refine OpsL.same ?_ | refine OpsDL.same ?_); first | refine oK hw rfl rfl rfl ?_) | refine MvQ.stay ?_)
          refine Sat.rd 4 ?_
          (repeat' first | (refine Owe.same ?_; first | refine Owe.o ?_ | refine Owe.mk ?_ ?_) | (refine Fork.same ?_; (first | refine fkY ?_ | refine fkF ?_ | ((first | refine fkD ?_ ?_ | refine fkN ?_ ?_ | refine fkM ?_ ?_) <;> (intro h; try (exfalso; omega))))) | ((first | refine OpsL.same ?_ | refine OpsDL.same ?_); first | refine oK k0 rfl rfl rfl ?_ | refine oK n0 rfl rfl rfl ?_ | refine oK k1 rfl rfl rfl ?_ | refine oK n1 rfl rfl rfl ?_ | refine oK k2 rfl rfl rfl ?_ | refine oK n2 rfl rfl rfl ?_) | refine MvQ.stay ?_)
          exact h true v0 v1 v2 38 (by decide) (fun _ => hn) (fun h => (by cases h))
  · have hn := lkP_no (p := p) (fun h => hl h.1)
    generalize cutG 32 [] p = W at *
    (repeat' first | (refine Owe.same ?_; first | refine Owe.o ?_ | refine Owe.mk ?_ ?_) | (refine Fork.same ?_; (first | refine fkY ?_ | refine fkF ?_ | ((first | refine fkD ?_ ?_ | refine fkN ?_ ?_ | refine fkM ?_ ?_) <;> (intro h; try (exfalso; omega))))) | ((first | refine OpsL.same ?_ | refine OpsDL.same ?_); first | refine oK hw rfl rfl rfl ?_) | refine MvQ.stay ?_)
    exact h false 0 0 0 5 (by decide) (fun h => (by cases h)) (fun _ => hn)
end Go.Pw

set_option linter.unusedSimpArgs false
set_option linter.unusedVariables false
set_option maxHeartbeats 1000000
namespace Go.Pw
open Go.RowKit Go.Lib
set_option maxRecDepth 2000
open Go Go.Proofs A1 A2 A3 A4
theorem C14 {s : By} : s.length ≤ 100000 → PFD Tryz.prog 14 [sv s] (.tup [lnv (plE s).1, vi .i64 (plE s).2]) := fun hs => by
  have hz : (bs s).size = s.length := bs_size s
  by_cases hb : 60000 < s.length
  · rw [plE_big hb]
    refine pi2 fn14 ?_
    (repeat' first | (refine Owe.same ?_; first | refine Owe.o ?_ | refine Owe.mk ?_ ?_) | (refine Fork.same ?_; (first | refine fkD ?_ ?_ | refine fkN ?_ ?_ | refine fkM ?_ ?_) <;> (intro h; try (exfalso; omega))) | refine MvQ.stay ?_)
    (refine rqK rfl ?_; (repeat' first | exact rfl | (refine qS ?_; constructor)))
  have h94 := C94 (s := s) (c := 59) (by omega)
  have hPl := cut_count (c := 59) (l := s) (acc := [])
  have hPx : Hd (∀ x ∈ cutG 59 [] s, x.length ≤ 60000) := ⟨fun x hx => by have := cut_len x hx; simp at this; omega⟩
  obtain ⟨h0, R, hP⟩ : ∃ h0 R, cutG 59 [] s = h0 :: R := by
    cases hc : cutG 59 [] s with
    | nil => exact absurd hc cutG_ne
    | cons x r => exact ⟨x, r, rfl⟩
  rw [plE_of hb hP]
  rw [hP] at h94 hPx hPl
  have hPl : R.length ≤ 60001 := by rw [List.length_cons] at hPl; omega
  clear hP
  have hsl : (h0 :: R).length - Int.toNat 1 = R.length := rfl
  refine pi2 fn14 ?_
  (repeat' first | (refine Owe.same ?_; first | refine Owe.o ?_ | refine Owe.mk ?_ ?_) | (refine Fork.same ?_; (first | refine fkY ?_ | refine fkF ?_ | ((first | refine fkD ?_ ?_ | refine fkN ?_ ?_ | refine fkM ?_ ?_) <;> (intro h; try (exfalso; omega))))) | ((first | refine OpsL.same ?_ | refine OpsDL.same ?_); first | refine oK h94 rfl rfl rfl ?_) | refine MvQ.stay ?_)
  refine Ops.cs rfl rfl (fillH (hPx.h h0 (by simp)) ?_)
  intro ok a b nx hnx hy hn
  rcases hnx with rfl | rfl | rfl
  · (repeat' first | (refine Owe.same ?_; first | refine Owe.o ?_ | refine Owe.mk ?_ ?_) | (refine Fork.same ?_; (first | refine fkD ?_ ?_ | refine fkN ?_ ?_ | refine fkM ?_ ?_) <;> (intro h; try (exfalso; omega))) | refine MvQ.stay ?_)
    refine Sat.nilB 1 2 160 3 (fun i => r3 (([] : List Tr3).getD i (0, 0, 0))) rfl rfl ?_
    refine Sat.lp (fun st : Nat × Bool × List Tr3 => ⟨[(2, .c (.bp 0 0)), (4, .c (.bp 1 0)), (29, .c (sts R)), (30, vi .i64 R.length), (31, vi .i64 (st.1 : Int)), (6, vbl st.2.1)],
        [(0, .box [int 0, int 0, .d (.v (.slice none 0 0))]), (1, .box [int a, int b, .ms 2 st.2.2.length]), (2, rowv 160 3 r3 (0, 0, 0) st.2.2)], 3⟩)
      (fun st : Nat × Bool × List Tr3 => (st.1 ≤ R.length ∧ st.2.2.length = st.1) ∧ Hd (st.2.1 = true → hdP h0 = some (a, b) ∧ alL lkP (R.take st.1) = some st.2.2) ∧ Hd (st.2.1 = false → plV h0 R = ((0, 0, []), 7))) (fun st : Nat × Bool × List Tr3 => R.length - st.1) (0, ok, []) [0, 1, 3] ⟨⟨by simp, rfl⟩, ⟨fun h => ⟨hy h, rfl⟩⟩, ⟨fun h => plV_h (hn h)⟩⟩ ?_ ?_
    · (refine qis ?_ ?_ <;> (repeat' first | exact rfl | (refine qS ?_; constructor)))
      cases ok
      · exact VEq.c _ _ .fls
      · exact VEq.c _ _ .tru
    · rintro ⟨k, o, acc⟩ ⟨⟨hk, hal⟩, hx, ha⟩
      simp only at hk hal hx ha
      refine Fork.dec (fun hlt => ?_) (fun hlt => ?_)
      · have hk2 : k < R.length := by have hlt : (k : Int) < R.length := hlt; omega
        have hpl : (R.getD (k : Int).toNat []).length ≤ 60000 := hPx.h _ (List.mem_cons_of_mem h0 (getD_mem (l := R) [] hk2))
        cases o with
        | true =>
          (repeat' first | (refine Owe.same ?_; first | refine Owe.o ?_ | refine Owe.mk ?_ ?_) | (refine Fork.same ?_; (first | refine fkD ?_ ?_ | refine fkN ?_ ?_ | refine fkM ?_ ?_) <;> (intro h; try (exfalso; omega))) | refine MvQ.stay ?_)
          refine Ops.cs rfl rfl (fillL hpl ?_)
          intro ok2 x y z nx2 hnx2 hy2 hn2
          cases ok2 with
          | true =>
            have hn1 : hdP h0 = some (a, b) ∧ alL lkP (R.take (k + 1)) = some (acc ++ [(x, y, z)]) := ⟨(hx.h rfl).1, by rw [tk1 [] hk2, alL_app (hx.h rfl).2, show lkP (R.getD k []) = some (x, y, z) from hy2 rfl]⟩
            rcases hnx2 with rfl | rfl | rfl | rfl
            · (repeat' first | (refine Owe.same ?_; first | refine Owe.o ?_ | refine Owe.mk ?_ ?_) | (refine Fork.same ?_; (first | refine fkD ?_ ?_ | refine fkN ?_ ?_ | refine fkM ?_ ?_) <;> (intro h; try (exfalso; omega))) | refine MvQ.stay ?_)
              refine again (k + 1, true, acc ++ [(x, y, z)]) [0, 1, 5] ⟨⟨hk2, by simp; omega⟩, ⟨fun _ => hn1⟩, ⟨fun h => (by cases h)⟩⟩ (by show R.length - (k + 1) < R.length - k; omega) ?_
              (refine qis ?_ ?_ <;> (repeat' first | exact rfl | (refine qS ?_; constructor)))
              all_goals first | (simp; done) | exact VEq.c _ _ .fls | exact VEq.c _ _ .tru
            · (repeat' first | (refine Owe.same ?_; first | refine Owe.o ?_ | refine Owe.mk ?_ ?_) | (refine Fork.same ?_; (first | refine fkD ?_ ?_ | refine fkN ?_ ?_ | refine fkM ?_ ?_) <;> (intro h; try (exfalso; omega))) | refine MvQ.stay ?_)
              refine again (k + 1, true, acc ++ [(x, y, z)]) [0, 1, 16] ⟨⟨hk2, by simp; omega⟩, ⟨fun _ => hn1⟩, ⟨fun h => (by cases h)⟩⟩ (by show R.length - (k + 1) < R.length - k; omega) ?_
              (refine qis ?_ ?_ <;> (repeat' first | exact rfl | (refine qS ?_; constructor)))
              all_goals first | (simp; done) | exact VEq.c _ _ .fls | exact VEq.c _ _ .tru
            · (repeat' first | (refine Owe.same ?_; first | refine Owe.o ?_ | refine Owe.mk ?_ ?_) | (refine Fork.same ?_; (first | refine fkD ?_ ?_ | refine fkN ?_ ?_ | refine fkM ?_ ?_) <;> (intro h; try (exfalso; omega))) | refine MvQ.stay ?_)
              refine again (k + 1, true, acc ++ [(x, y, z)]) [0, 1, 27] ⟨⟨hk2, by simp; omega⟩, ⟨fun _ => hn1⟩, ⟨fun h => (by cases h)⟩⟩ (by show R.length - (k + 1) < R.length - k; omega) ?_
              (refine qis ?_ ?_ <;> (repeat' first | exact rfl | (refine qS ?_; constructor)))
              all_goals first | (simp; done) | exact VEq.c _ _ .fls | exact VEq.c _ _ .tru
            · (repeat' first | (refine Owe.same ?_; first | refine Owe.o ?_ | refine Owe.mk ?_ ?_) | (refine Fork.same ?_; (first | refine fkD ?_ ?_ | refine fkN ?_ ?_ | refine fkM ?_ ?_) <;> (intro h; try (exfalso; omega))) | refine MvQ.stay ?_)
              refine again (k + 1, true, acc ++ [(x, y, z)]) [0, 1, 38] ⟨⟨hk2, by simp; omega⟩, ⟨fun _ => hn1⟩, ⟨fun h => (by cases h)⟩⟩ (by show R.length - (k + 1) < R.length - k; omega) ?_
              (refine qis ?_ ?_ <;> (repeat' first | exact rfl | (refine qS ?_; constructor)))
              all_goals first | (simp; done) | exact VEq.c _ _ .fls | exact VEq.c _ _ .tru
          | false =>
            have hbad : plV h0 R = ((0, 0, []), 7) := plV_r (alL_take hk2 (hn2 rfl))
            rcases hnx2 with rfl | rfl | rfl | rfl
            · (repeat' first | (refine Owe.same ?_; first | refine Owe.o ?_ | refine Owe.mk ?_ ?_) | (refine Fork.same ?_; (first | refine fkD ?_ ?_ | refine fkN ?_ ?_ | refine fkM ?_ ?_) <;> (intro h; try (exfalso; omega))) | refine MvQ.stay ?_)
              refine again (k + 1, false, acc ++ [(x, y, z)]) [0, 1, 5] ⟨⟨hk2, by simp; omega⟩, ⟨fun h => (by cases h)⟩, ⟨fun _ => hbad⟩⟩ (by show R.length - (k + 1) < R.length - k; omega) ?_
              (refine qis ?_ ?_ <;> (repeat' first | exact rfl | (refine qS ?_; constructor)))
              all_goals first | (simp; done) | exact VEq.c _ _ .fls | exact VEq.c _ _ .tru
            · (repeat' first | (refine Owe.same ?_; first | refine Owe.o ?_ | refine Owe.mk ?_ ?_) | (refine Fork.same ?_; (first | refine fkD ?_ ?_ | refine fkN ?_ ?_ | refine fkM ?_ ?_) <;> (intro h; try (exfalso; omega))) | refine MvQ.stay ?_)
              refine again (k + 1, false, acc ++ [(x, y, z)]) [0, 1, 16] ⟨⟨hk2, by simp; omega⟩, ⟨fun h => (by cases h)⟩, ⟨fun _ => hbad⟩⟩ (by show R.length - (k + 1) < R.length - k; omega) ?_
              (refine qis ?_ ?_ <;> (repeat' first | exact rfl | (refine qS ?_; constructor)))
              all_goals first | (simp; done) | exact VEq.c _ _ .fls | exact VEq.c _ _ .tru
            · (repeat' first | (refine Owe.same ?_; first | refine Owe.o ?_ | refine Owe.mk ?_ ?_) | (refine Fork.same ?_; (first | refine fkD ?_ ?_ | refine fkN ?_ ?_ | refine fkM ?_ ?_) <;> (intro h; try (exfalso; omega))) | refine MvQ.stay ?_)
              refine again (k + 1, false, acc ++ [(x, y, z)]) [0, 1, 27] ⟨⟨hk2, by simp; omega⟩, ⟨fun h => (by cases h)⟩, ⟨fun _ => hbad⟩⟩ (by show R.length - (k + 1) < R.length - k; omega) ?_
              (refine qis ?_ ?_ <;> (repeat' first | exact rfl | (refine qS ?_; constructor)))
              all_goals first | (simp; done) | exact VEq.c _ _ .fls | exact VEq.c _ _ .tru
            · (repeat' first | (refine Owe.same ?_; first | refine Owe.o ?_ | refine Owe.mk ?_ ?_) | (refine Fork.same ?_; (first | refine fkD ?_ ?_ | refine fkN ?_ ?_ | refine fkM ?_ ?_) <;> (intro h; try (exfalso; omega))) | refine MvQ.stay ?_)
              refine again (k + 1, false, acc ++ [(x, y, z)]) [0, 1, 38] ⟨⟨hk2, by simp; omega⟩, ⟨fun h => (by cases h)⟩, ⟨fun _ => hbad⟩⟩ (by show R.length - (k + 1) < R.length - k; omega) ?_
              (refine qis ?_ ?_ <;> (repeat' first | exact rfl | (refine qS ?_; constructor)))
              all_goals first | (simp; done) | exact VEq.c _ _ .fls | exact VEq.c _ _ .tru
        | false =>
          have hbad := ha.h rfl
          (repeat' first | (refine Owe.same ?_; first | refine Owe.o ?_ | refine Owe.mk ?_ ?_) | (refine Fork.same ?_; (first | refine fkD ?_ ?_ | refine fkN ?_ ?_ | refine fkM ?_ ?_) <;> (intro h; try (exfalso; omega))) | refine MvQ.stay ?_)
          refine Ops.cs rfl rfl (fillL hpl ?_)
          intro ok2 x y z nx2 hnx2 hy2 hn2
          cases ok2 with
          | true =>
            rcases hnx2 with rfl | rfl | rfl | rfl
            · (repeat' first | (refine Owe.same ?_; first | refine Owe.o ?_ | refine Owe.mk ?_ ?_) | (refine Fork.same ?_; (first | refine fkD ?_ ?_ | refine fkN ?_ ?_ | refine fkM ?_ ?_) <;> (intro h; try (exfalso; omega))) | refine MvQ.stay ?_)
              refine again (k + 1, false, acc ++ [(x, y, z)]) [0, 1, 5] ⟨⟨hk2, by simp; omega⟩, ⟨fun h => (by cases h)⟩, ⟨fun _ => hbad⟩⟩ (by show R.length - (k + 1) < R.length - k; omega) ?_
              (refine qis ?_ ?_ <;> (repeat' first | exact rfl | (refine qS ?_; constructor)))
              all_goals first | (simp; done) | exact VEq.c _ _ .fls | exact VEq.c _ _ .tru
            · (repeat' first | (refine Owe.same ?_; first | refine Owe.o ?_ | refine Owe.mk ?_ ?_) | (refine Fork.same ?_; (first | refine fkD ?_ ?_ | refine fkN ?_ ?_ | refine fkM ?_ ?_) <;> (intro h; try (exfalso; omega))) | refine MvQ.stay ?_)
              refine again (k + 1, false, acc ++ [(x, y, z)]) [0, 1, 16] ⟨⟨hk2, by simp; omega⟩, ⟨fun h => (by cases h)⟩, ⟨fun _ => hbad⟩⟩ (by show R.length - (k + 1) < R.length - k; omega) ?_
              (refine qis ?_ ?_ <;> (repeat' first | exact rfl | (refine qS ?_; constructor)))
              all_goals first | (simp; done) | exact VEq.c _ _ .fls | exact VEq.c _ _ .tru
            · (repeat' first | (refine Owe.same ?_; first | refine Owe.o ?_ | refine Owe.mk ?_ ?_) | (refine Fork.same ?_; (first | refine fkD ?_ ?_ | refine fkN ?_ ?_ | refine fkM ?_ ?_) <;> (intro h; try (exfalso; omega))) | refine MvQ.stay ?_)
              refine again (k + 1, false, acc ++ [(x, y, z)]) [0, 1, 27] ⟨⟨hk2, by simp; omega⟩, ⟨fun h => (by cases h)⟩, ⟨fun _ => hbad⟩⟩ (by show R.length - (k + 1) < R.length - k; omega) ?_
              (refine qis ?_ ?_ <;> (repeat' first | exact rfl | (refine qS ?_; constructor)))
              all_goals first | (simp; done) | exact VEq.c _ _ .fls | exact VEq.c _ _ .tru
            · (repeat' first | (refine Owe.same ?_; first | refine Owe.o ?_ | refine Owe.mk ?_ ?_) | (refine Fork.same ?_; (first | refine fkD ?_ ?_ | refine fkN ?_ ?_ | refine fkM ?_ ?_) <;> (intro h; try (exfalso; omega))) | refine MvQ.stay ?_)
              refine again (k + 1, false, acc ++ [(x, y, z)]) [0, 1, 38] ⟨⟨hk2, by simp; omega⟩, ⟨fun h => (by cases h)⟩, ⟨fun _ => hbad⟩⟩ (by show R.length - (k + 1) < R.length - k; omega) ?_
              (refine qis ?_ ?_ <;> (repeat' first | exact rfl | (refine qS ?_; constructor)))
              all_goals first | (simp; done) | exact VEq.c _ _ .fls | exact VEq.c _ _ .tru
          | false =>
            rcases hnx2 with rfl | rfl | rfl | rfl
            · (repeat' first | (refine Owe.same ?_; first | refine Owe.o ?_ | refine Owe.mk ?_ ?_) | (refine Fork.same ?_; (first | refine fkD ?_ ?_ | refine fkN ?_ ?_ | refine fkM ?_ ?_) <;> (intro h; try (exfalso; omega))) | refine MvQ.stay ?_)
              refine again (k + 1, false, acc ++ [(x, y, z)]) [0, 1, 5] ⟨⟨hk2, by simp; omega⟩, ⟨fun h => (by cases h)⟩, ⟨fun _ => hbad⟩⟩ (by show R.length - (k + 1) < R.length - k; omega) ?_
              (refine qis ?_ ?_ <;> (repeat' first | exact rfl | (refine qS ?_; constructor)))
              all_goals first | (simp; done) | exact VEq.c _ _ .fls | exact VEq.c _ _ .tru
            · (repeat' first | (refine Owe.same ?_; first | refine Owe.o ?_ | refine Owe.mk ?_ ?_) | (refine Fork.same ?_; (first | refine fkD ?_ ?_ | refine fkN ?_ ?_ | refine fkM ?_ ?_) <;> (intro h; try (exfalso; omega))) | refine MvQ.stay ?_)
              refine again (k + 1, false, acc ++ [(x, y, z)]) [0, 1, 16] ⟨⟨hk2, by simp; omega⟩, ⟨fun h => (by cases h)⟩, ⟨fun _ => hbad⟩⟩ (by show R.length - (k + 1) < R.length - k; omega) ?_
              (refine qis ?_ ?_ <;> (repeat' first | exact rfl | (refine qS ?_; constructor)))
              all_goals first | (simp; done) | exact VEq.c _ _ .fls | exact VEq.c _ _ .tru
            · (repeat' first | (refine Owe.same ?_; first | refine Owe.o ?_ | refine Owe.mk ?_ ?_) | (refine Fork.same ?_; (first | refine fkD ?_ ?_ | refine fkN ?_ ?_ | refine fkM ?_ ?_) <;> (intro h; try (exfalso; omega))) | refine MvQ.stay ?_)
              refine again (k + 1, false, acc ++ [(x, y, z)]) [0, 1, 27] ⟨⟨hk2, by simp; omega⟩, ⟨fun h => (by cases h)⟩, ⟨fun _ => hbad⟩⟩ (by show R.length - (k + 1) < R.length - k; omega) ?_
              (refine qis ?_ ?_ <;> (repeat' first | exact rfl | (refine qS ?_; constructor)))
              all_goals first | (simp; done) | exact VEq.c _ _ .fls | exact VEq.c _ _ .tru
            · (repeat' first | (refine Owe.same ?_; first | refine Owe.o ?_ | refine Owe.mk ?_ ?_) | (refine Fork.same ?_; (first | refine fkD ?_ ?_ | refine fkN ?_ ?_ | refine fkM ?_ ?_) <;> (intro h; try (exfalso; omega))) | refine MvQ.stay ?_)
              refine again (k + 1, false, acc ++ [(x, y, z)]) [0, 1, 38] ⟨⟨hk2, by simp; omega⟩, ⟨fun h => (by cases h)⟩, ⟨fun _ => hbad⟩⟩ (by show R.length - (k + 1) < R.length - k; omega) ?_
              (refine qis ?_ ?_ <;> (repeat' first | exact rfl | (refine qS ?_; constructor)))
              all_goals first | (simp; done) | exact VEq.c _ _ .fls | exact VEq.c _ _ .tru
      · have hk1 : k = R.length := by
          have hlt : ¬ (k : Int) < R.length := hlt
          omega
        subst hk1
        have hacc : acc.length ≤ 1000000 := by omega
        cases o with
        | true =>
          obtain ⟨hh, ha2⟩ := hx.h rfl
          rw [List.take_length] at ha2
          rw [plV_y hh ha2]
          have h96 := C96 (x := a) (z := b) (l := acc) hacc
          by_cases h00 : (lineE a b acc).2 = 0
          · rw [if_pos h00]
            rw [h00] at h96
            (repeat' first | (refine Owe.same ?_; first | refine Owe.o ?_ | refine Owe.mk ?_ ?_) | (refine Fork.same ?_; (first | refine fkD ?_ ?_ | refine fkN ?_ ?_ | refine fkM ?_ ?_) <;> intro h))
            refine MvQ.frzX 1 2 2 rfl rfl rfl (Nat.le_refl _) ?_
            (repeat' first | (refine Owe.same ?_; first | refine Owe.o ?_ | refine Owe.mk ?_ ?_) | (refine Fork.same ?_; (first | refine fkY ?_ | refine fkF ?_ | ((first | refine fkD ?_ ?_ | refine fkN ?_ ?_ | refine fkM ?_ ?_) <;> (intro h; try (exfalso; omega))))) | ((first | refine OpsL.same ?_ | refine OpsDL.same ?_); first | refine oK h96 rfl rfl rfl ?_) | refine MvQ.stay ?_)
            (refine rqK rfl ?_; (repeat' first | exact rfl | (refine qS ?_; constructor)))
          · rw [if_neg h00]
            (repeat' first | (refine Owe.same ?_; first | refine Owe.o ?_ | refine Owe.mk ?_ ?_) | (refine Fork.same ?_; (first | refine fkD ?_ ?_ | refine fkN ?_ ?_ | refine fkM ?_ ?_) <;> intro h))
            refine MvQ.frzX 1 2 2 rfl rfl rfl (Nat.le_refl _) ?_
            (repeat' first | (refine Owe.same ?_; first | refine Owe.o ?_ | refine Owe.mk ?_ ?_) | (refine Fork.same ?_; (first | refine fkY ?_ | refine fkF ?_ | ((first | refine fkD ?_ ?_ | refine fkN ?_ ?_ | refine fkM ?_ ?_) <;> (intro h; try (exfalso; omega))))) | ((first | refine OpsL.same ?_ | refine OpsDL.same ?_); first | refine oK h96 rfl rfl rfl ?_) | refine MvQ.stay ?_)
            (refine rqK rfl ?_; (repeat' first | exact rfl | (refine qS ?_; constructor)))
        | false =>
          rw [ha.h rfl]
          (repeat' first | (refine Owe.same ?_; first | refine Owe.o ?_ | refine Owe.mk ?_ ?_) | (refine Fork.same ?_; (first | refine fkD ?_ ?_ | refine fkN ?_ ?_ | refine fkM ?_ ?_) <;> intro h))
          refine MvQ.frzX 1 2 2 rfl rfl rfl (Nat.le_refl _) ?_
          (repeat' first | (refine Owe.same ?_; first | refine Owe.o ?_ | refine Owe.mk ?_ ?_) | (refine Fork.same ?_; (first | refine fkD ?_ ?_ | refine fkN ?_ ?_ | refine fkM ?_ ?_) <;> (intro h; try (exfalso; omega))) | refine MvQ.stay ?_)
          · (refine rqK rfl ?_; (repeat' first | exact rfl | (refine qS ?_; constructor)))
          · exact absurd h (by simp)
  · (repeat' first | (refine Owe.same ?_; first | refine Owe.o ?_ | refine Owe.mk ?_ ?_) | (refine Fork.same ?_; (first | refine fkD ?_ ?_ | refine fkN ?_ ?_ | refine fkM ?_ ?_) <;> (intro h; try (exfalso; omega))) | refine MvQ.stay ?_)
    refine Sat.nilB 1 2 160 3 (fun i => r3 (([] : List Tr3).getD i (0, 0, 0))) rfl rfl ?_
    refine Sat.lp (fun st : Nat × Bool × List Tr3 => ⟨[(2, .c (.bp 0 0)), (4, .c (.bp 1 0)), (29, .c (sts R)), (30, vi .i64 R.length), (31, vi .i64 (st.1 : Int)), (6, vbl st.2.1)],
        [(0, .box [int 0, int 0, .d (.v (.slice none 0 0))]), (1, .box [int a, int b, .ms 2 st.2.2.length]), (2, rowv 160 3 r3 (0, 0, 0) st.2.2)], 3⟩)
      (fun st : Nat × Bool × List Tr3 => (st.1 ≤ R.length ∧ st.2.2.length = st.1) ∧ Hd (st.2.1 = true → hdP h0 = some (a, b) ∧ alL lkP (R.take st.1) = some st.2.2) ∧ Hd (st.2.1 = false → plV h0 R = ((0, 0, []), 7))) (fun st : Nat × Bool × List Tr3 => R.length - st.1) (0, ok, []) [0, 1, 14] ⟨⟨by simp, rfl⟩, ⟨fun h => ⟨hy h, rfl⟩⟩, ⟨fun h => plV_h (hn h)⟩⟩ ?_ ?_
    · (refine qis ?_ ?_ <;> (repeat' first | exact rfl | (refine qS ?_; constructor)))
      cases ok
      · exact VEq.c _ _ .fls
      · exact VEq.c _ _ .tru
    · rintro ⟨k, o, acc⟩ ⟨⟨hk, hal⟩, hx, ha⟩
      simp only at hk hal hx ha
      refine Fork.dec (fun hlt => ?_) (fun hlt => ?_)
      · have hk2 : k < R.length := by have hlt : (k : Int) < R.length := hlt; omega
        have hpl : (R.getD (k : Int).toNat []).length ≤ 60000 := hPx.h _ (List.mem_cons_of_mem h0 (getD_mem (l := R) [] hk2))
        cases o with
        | true =>
          (repeat' first | (refine Owe.same ?_; first | refine Owe.o ?_ | refine Owe.mk ?_ ?_) | (refine Fork.same ?_; (first | refine fkD ?_ ?_ | refine fkN ?_ ?_ | refine fkM ?_ ?_) <;> (intro h; try (exfalso; omega))) | refine MvQ.stay ?_)
          refine Ops.cs rfl rfl (fillL hpl ?_)
          intro ok2 x y z nx2 hnx2 hy2 hn2
          cases ok2 with
          | true =>
            have hn1 : hdP h0 = some (a, b) ∧ alL lkP (R.take (k + 1)) = some (acc ++ [(x, y, z)]) := ⟨(hx.h rfl).1, by rw [tk1 [] hk2, alL_app (hx.h rfl).2, show lkP (R.getD k []) = some (x, y, z) from hy2 rfl]⟩
            rcases hnx2 with rfl | rfl | rfl | rfl
            · (repeat' first | (refine Owe.same ?_; first | refine Owe.o ?_ | refine Owe.mk ?_ ?_) | (refine Fork.same ?_; (first | refine fkD ?_ ?_ | refine fkN ?_ ?_ | refine fkM ?_ ?_) <;> (intro h; try (exfalso; omega))) | refine MvQ.stay ?_)
              refine again (k + 1, true, acc ++ [(x, y, z)]) [0, 1, 5] ⟨⟨hk2, by simp; omega⟩, ⟨fun _ => hn1⟩, ⟨fun h => (by cases h)⟩⟩ (by show R.length - (k + 1) < R.length - k; omega) ?_
              (refine qis ?_ ?_ <;> (repeat' first | exact rfl | (refine qS ?_; constructor)))
              all_goals first | (simp; done) | exact VEq.c _ _ .fls | exact VEq.c _ _ .tru
            · (repeat' first | (refine Owe.same ?_; first | refine Owe.o ?_ | refine Owe.mk ?_ ?_) | (refine Fork.same ?_; (first | refine fkD ?_ ?_ | refine fkN ?_ ?_ | refine fkM ?_ ?_) <;> (intro h; try (exfalso; omega))) | refine MvQ.stay ?_)
              refine again (k + 1, true, acc ++ [(x, y, z)]) [0, 1, 16] ⟨⟨hk2, by simp; omega⟩, ⟨fun _ => hn1⟩, ⟨fun h => (by cases h)⟩⟩ (by show R.length - (k + 1) < R.length - k; omega) ?_
              (refine qis ?_ ?_ <;> (repeat' first | exact rfl | (refine qS ?_; constructor)))
              all_goals first | (simp; done) | exact VEq.c _ _ .fls | exact VEq.c _ _ .tru
            · (repeat' first | (refine Owe.same ?_; first | refine Owe.o ?_ | refine Owe.mk ?_ ?_) | (refine Fork.same ?_; (first | refine fkD ?_ ?_ | refine fkN ?_ ?_ | refine fkM ?_ ?_) <;> (intro h; try (exfalso; omega))) | refine MvQ.stay ?_)
              refine again (k + 1, true, acc ++ [(x, y, z)]) [0, 1, 27] ⟨⟨hk2, by simp; omega⟩, ⟨fun _ => hn1⟩, ⟨fun h => (by cases h)⟩⟩ (by show R.length - (k + 1) < R.length - k; omega) ?_
              (refine qis ?_ ?_ <;> (repeat' first | exact rfl | (refine qS ?_; constructor)))
              all_goals first | (simp; done) | exact VEq.c _ _ .fls | exact VEq.c _ _ .tru
            · (repeat' first | (refine Owe.same ?_; first | refine Owe.o ?_ | refine Owe.mk ?_ ?_) | (refine Fork.same ?_; (first | refine fkD ?_ ?_ | refine fkN ?_ ?_ | refine fkM ?_ ?_) <;> (intro h; try (exfalso; omega))) | refine MvQ.stay ?_)
              refine again (k + 1, true, acc ++ [(x, y, z)]) [0, 1, 38] ⟨⟨hk2, by simp; omega⟩, ⟨fun _ => hn1⟩, ⟨fun h => (by cases h)⟩⟩ (by show R.length - (k + 1) < R.length - k; omega) ?_
              (refine qis ?_ ?_ <;> (repeat' first | exact rfl | (refine qS ?_; constructor)))
              all_goals first | (simp; done) | exact VEq.c _ _ .fls | exact VEq.c _ _ .tru
          | false =>
            have hbad : plV h0 R = ((0, 0, []), 7) := plV_r (alL_take hk2 (hn2 rfl))
            rcases hnx2 with rfl | rfl | rfl | rfl
            · (repeat' first | (refine Owe.same ?_; first | refine Owe.o ?_ | refine Owe.mk ?_ ?_) | (refine Fork.same ?_; (first | refine fkD ?_ ?_ | refine fkN ?_ ?_ | refine fkM ?_ ?_) <;> (intro h; try (exfalso; omega))) | refine MvQ.stay ?_)
              refine again (k + 1, false, acc ++ [(x, y, z)]) [0, 1, 5] ⟨⟨hk2, by simp; omega⟩, ⟨fun h => (by cases h)⟩, ⟨fun _ => hbad⟩⟩ (by show R.length - (k + 1) < R.length - k; omega) ?_
              (refine qis ?_ ?_ <;> (repeat' first | exact rfl | (refine qS ?_; constructor)))
              all_goals first | (simp; done) | exact VEq.c _ _ .fls | exact VEq.c _ _ .tru
            · (repeat' first | (refine Owe.same ?_; first | refine Owe.o ?_ | refine Owe.mk ?_ ?_) | (refine Fork.same ?_; (first | refine fkD ?_ ?_ | refine fkN ?_ ?_ | refine fkM ?_ ?_) <;> (intro h; try (exfalso; omega))) | refine MvQ.stay ?_)
              refine again (k + 1, false, acc ++ [(x, y, z)]) [0, 1, 16] ⟨⟨hk2, by simp; omega⟩, ⟨fun h => (by cases h)⟩, ⟨fun _ => hbad⟩⟩ (by show R.length - (k + 1) < R.length - k; omega) ?_
              (refine qis ?_ ?_ <;> (repeat' first | exact rfl | (refine qS ?_; constructor)))
              all_goals first | (simp; done) | exact VEq.c _ _ .fls | exact VEq.c _ _ .tru
            · (repeat' first | (refine Owe.same ?_; first | refine Owe.o ?_ | refine Owe.mk ?_ ?_) | (refine Fork.same ?_; (first | refine fkD ?_ ?_ | refine fkN ?_ ?_ | refine fkM ?_ ?_) <;> (intro h; try (exfalso; omega))) | refine MvQ.stay ?_)
              refine again (k + 1, false, acc ++ [(x, y, z)]) [0, 1, 27] ⟨⟨hk2, by simp; omega⟩, ⟨fun h => (by cases h)⟩, ⟨fun _ => hbad⟩⟩ (by show R.length - (k + 1) < R.length - k; omega) ?_
              (refine qis ?_ ?_ <;> (repeat' first | exact rfl | (refine qS ?_; constructor)))
              all_goals first | (simp; done) | exact VEq.c _ _ .fls | exact VEq.c _ _ .tru
            · (repeat' first | (refine Owe.same ?_; first | refine Owe.o ?_ | refine Owe.mk ?_ ?_) | (refine Fork.same ?_; (first | refine fkD ?_ ?_ | refine fkN ?_ ?_ | refine fkM ?_ ?_) <;> (intro h; try (exfalso; omega))) | refine MvQ.stay ?_)
              refine again (k + 1, false, acc ++ [(x, y, z)]) [0, 1, 38] ⟨⟨hk2, by simp; omega⟩, ⟨fun h => (by cases h)⟩, ⟨fun _ => hbad⟩⟩ (by show R.length - (k + 1) < R.length - k; omega) ?_
              (refine qis ?_ ?_ <;> (repeat' first | exact rfl | (refine qS ?_; constructor)))
              all_goals first | (simp; done) | exact VEq.c _ _ .fls | exact VEq.c _ _ .tru
        | false =>
          have hbad := ha.h rfl
          (repeat' first | (refine Owe.same ?_; first | refine Owe.o ?_ | refine Owe.mk ?_ ?_) | (refine Fork.same ?_; (first | refine fkD ?_ ?_ | refine fkN ?_ ?_ | refine fkM ?_ ?_) <;> (intro h; try (exfalso; omega))) | refine MvQ.stay ?_)
          refine Ops.cs rfl rfl (fillL hpl ?_)
          intro ok2 x y z nx2 hnx2 hy2 hn2
          cases ok2 with
          | true =>
            rcases hnx2 with rfl | rfl | rfl | rfl
            · (repeat' first | (refine Owe.same ?_; first | refine Owe.o ?_ | refine Owe.mk ?_ ?_) | (refine Fork.same ?_; (first | refine fkD ?_ ?_ | refine fkN ?_ ?_ | refine fkM ?_ ?_) <;> (intro h; try (exfalso; omega))) | refine MvQ.stay ?_)
              refine again (k + 1, false, acc ++ [(x, y, z)]) [0, 1, 5] ⟨⟨hk2, by simp; omega⟩, ⟨fun h => (by cases h)⟩, ⟨fun _ => hbad⟩⟩ (by show R.length - (k + 1) < R.length - k; omega) ?_
              (refine qis ?_ ?_ <;> (repeat' first | exact rfl | (refine qS ?_; constructor)))
              all_goals first | (simp; done) | exact VEq.c _ _ .fls | exact VEq.c _ _ .tru
            · (repeat' first | (refine Owe.same ?_; first | refine Owe.o ?_ | refine Owe.mk ?_ ?_) | (refine Fork.same ?_; (first | refine fkD ?_ ?_ | refine fkN ?_ ?_ | refine fkM ?_ ?_) <;> (intro h; try (exfalso; omega))) | refine MvQ.stay ?_)
              refine again (k + 1, false, acc ++ [(x, y, z)]) [0, 1, 16] ⟨⟨hk2, by simp; omega⟩, ⟨fun h => (by cases h)⟩, ⟨fun _ => hbad⟩⟩ (by show R.length - (k + 1) < R.length - k; omega) ?_
              (refine qis ?_ ?_ <;> (repeat' first | exact rfl | (refine qS ?_; constructor)))
              all_goals first | (simp; done) | exact VEq.c _ _ .fls | exact VEq.c _ _ .tru
            · (repeat' first | (refine Owe.same ?_; first | refine Owe.o ?_ | refine Owe.mk ?_ ?_) | (refine Fork.same ?_; (first | refine fkD ?_ ?_ | refine fkN ?_ ?_ | refine fkM ?_ ?_) <;> (intro h; try (exfalso; omega))) | refine MvQ.stay ?_)
              refine again (k + 1, false, acc ++ [(x, y, z)]) [0, 1, 27] ⟨⟨hk2, by simp; omega⟩, ⟨fun h => (by cases h)⟩, ⟨fun _ => hbad⟩⟩ (by show R.length - (k + 1) < R.length - k; omega) ?_
              (refine qis ?_ ?_ <;> (repeat' first | exact rfl | (refine qS ?_; constructor)))
              all_goals first | (simp; done) | exact VEq.c _ _ .fls | exact VEq.c _ _ .tru
            · (repeat' first | (refine Owe.same ?_; first | refine Owe.o ?_ | refine Owe.mk ?_ ?_) | (refine Fork.same ?_; (first | refine fkD ?_ ?_ | refine fkN ?_ ?_ | refine fkM ?_ ?_) <;> (intro h; try (exfalso; omega))) | refine MvQ.stay ?_)
              refine again (k + 1, false, acc ++ [(x, y, z)]) [0, 1, 38] ⟨⟨hk2, by simp; omega⟩, ⟨fun h => (by cases h)⟩, ⟨fun _ => hbad⟩⟩ (by show R.length - (k + 1) < R.length - k; omega) ?_
              (refine qis ?_ ?_ <;> (repeat' first | exact rfl | (refine qS ?_; constructor)))
              all_goals first | (simp; done) | exact VEq.c _ _ .fls | exact VEq.c _ _ .tru
          | false =>
            rcases hnx2 with rfl | rfl | rfl | rfl
            · (repeat' first | (refine Owe.same ?_; first | refine Owe.o ?_ | refine Owe.mk ?_ ?_) | (refine Fork.same ?_; (first | refine fkD ?_ ?_ | refine fkN ?_ ?_ | refine fkM ?_ ?_) <;> (intro h; try (exfalso; omega))) | refine MvQ.stay ?_)
              refine again (k + 1, false, acc ++ [(x, y, z)]) [0, 1, 5] ⟨⟨hk2, by simp; omega⟩, ⟨fun h => (by cases h)⟩, ⟨fun _ => hbad⟩⟩ (by show R.length - (k + 1) < R.length - k; omega) ?_
              (refine qis ?_ ?_ <;> (repeat' first | exact rfl | (refine qS ?_; constructor)))
              all_goals first | (simp; done) | exact VEq.c _ _ .fls | exact VEq.c _ _ .tru
            · (repeat' first | (refine Owe.same ?_; first | refine Owe.o ?_ | refine Owe.mk ?_ ?_) | (refine Fork.same ?_; (first | refine fkD ?_ ?_ | refine fkN ?_ ?_ | refine fkM ?_ ?_) <;> (intro h; try (exfalso; omega))) | refine MvQ.stay ?_)
              refine again (k + 1, false, acc ++ [(x, y, z)]) [0, 1, 16] ⟨⟨hk2, by simp; omega⟩, ⟨fun h => (by cases h)⟩, ⟨fun _ => hbad⟩⟩ (by show R.length - (k + 1) < R.length - k; omega) ?_
              (refine qis ?_ ?_ <;> (repeat' first | exact rfl | (refine qS ?_; constructor)))
              all_goals first | (simp; done) | exact VEq.c _ _ .fls | exact VEq.c _ _ .tru
            · (repeat' first | (refine Owe.same ?_; first | refine Owe.o ?_ | refine Owe.mk ?_ ?_) | (refine Fork.same ?_; (first | refine fkD ?_ ?_ | refine fkN ?_ ?_ | refine fkM ?_ ?_) <;> (intro h; try (exfalso; omega))) | refine MvQ.stay ?_)
              refine again (k + 1, false, acc ++ [(x, y, z)]) [0, 1, 27] ⟨⟨hk2, by simp; omega⟩, ⟨fun h => (by cases h)⟩, ⟨fun _ => hbad⟩⟩ (by show R.length - (k + 1) < R.length - k; omega) ?_
              (refine qis ?_ ?_ <;> (repeat' first | exact rfl | (refine qS ?_; constructor)))
              all_goals first | (simp; done) | exact VEq.c _ _ .fls | exact VEq.c _ _ .tru
            · (repeat' first | (refine Owe.same ?_; first | refine Owe.o ?_ | refine Owe.mk ?_ ?_) | (refine Fork.same ?_; (first | refine fkD ?_ ?_ | refine fkN ?_ ?_ | refine fkM ?_ ?_) <;> (intro h; try (exfalso; omega))) | refine MvQ.stay ?_)
              refine again (k + 1, false, acc ++ [(x, y, z)]) [0, 1, 38] ⟨⟨hk2, by simp; omega⟩, ⟨fun h => (by cases h)⟩, ⟨fun _ => hbad⟩⟩ (by show R.length - (k + 1) < R.length - k; omega) ?_
              (refine qis ?_ ?_ <;> (repeat' first | exact rfl | (refine qS ?_; constructor)))
              all_goals first | (simp; done) | exact VEq.c _ _ .fls | exact VEq.c _ _ .tru
      · have hk1 : k = R.length := by
          have hlt : ¬ (k : Int) < R.length := hlt
          omega
        subst hk1
        have hacc : acc.length ≤ 1000000 := by omega
        cases o with
        | true =>
          obtain ⟨hh, ha2⟩ := hx.h rfl
          rw [List.take_length] at ha2
          rw [plV_y hh ha2]
          have h96 := C96 (x := a) (z := b) (l := acc) hacc
          by_cases h00 : (lineE a b acc).2 = 0
          · rw [if_pos h00]
            rw [h00] at h96
            (repeat' first | (refine Owe.same ?_; first | refine Owe.o ?_ | refine Owe.mk ?_ ?_) | (refine Fork.same ?_; (first | refine fkD ?_ ?_ | refine fkN ?_ ?_ | refine fkM ?_ ?_) <;> intro h))
            refine MvQ.frzX 1 2 2 rfl rfl rfl (Nat.le_refl _) ?_
            (repeat' first | (refine Owe.same ?_; first | refine Owe.o ?_ | refine Owe.mk ?_ ?_) | (refine Fork.same ?_; (first | refine fkY ?_ | refine fkF ?_ | ((first | refine fkD ?_ ?_ | refine fkN ?_ ?_ | refine fkM ?_ ?_) <;> (intro h; try (exfalso; omega))))) | ((first | refine OpsL.same ?_ | refine OpsDL.same ?_); first | refine oK h96 rfl rfl rfl ?_) | refine MvQ.stay ?_)
            (refine rqK rfl ?_; (repeat' first | exact rfl | (refine qS ?_; constructor)))
          · rw [if_neg h00]
            (repeat' first | (refine Owe.same ?_; first | refine Owe.o ?_ | refine Owe.mk ?_ ?_) | (refine Fork.same ?_; (first | refine fkD ?_ ?_ | refine fkN ?_ ?_ | refine fkM ?_ ?_) <;> intro h))
            refine MvQ.frzX 1 2 2 rfl rfl rfl (Nat.le_refl _) ?_
            (repeat' first | (refine Owe.same ?_; first | refine Owe.o ?_ | refine Owe.mk ?_ ?_) | (refine Fork.same ?_; (first | refine fkY ?_ | refine fkF ?_ | ((first | refine fkD ?_ ?_ | refine fkN ?_ ?_ | refine fkM ?_ ?_) <;> (intro h; try (exfalso; omega))))) | ((first | refine OpsL.same ?_ | refine OpsDL.same ?_); first | refine oK h96 rfl rfl rfl ?_) | refine MvQ.stay ?_)
            (refine rqK rfl ?_; (repeat' first | exact rfl | (refine qS ?_; constructor)))
        | false =>
          rw [ha.h rfl]
          (repeat' first | (refine Owe.same ?_; first | refine Owe.o ?_ | refine Owe.mk ?_ ?_) | (refine Fork.same ?_; (first | refine fkD ?_ ?_ | refine fkN ?_ ?_ | refine fkM ?_ ?_) <;> intro h))
          refine MvQ.frzX 1 2 2 rfl rfl rfl (Nat.le_refl _) ?_
          (repeat' first | (refine Owe.same ?_; first | refine Owe.o ?_ | refine Owe.mk ?_ ?_) | (refine Fork.same ?_; (first | refine fkD ?_ ?_ | refine fkN ?_ ?_ | refine fkM ?_ ?_) <;> (intro h; try (exfalso; omega))) | refine MvQ.stay ?_)
          · (refine rqK rfl ?_; (repeat' first | exact rfl | (refine qS ?_; constructor)))
          · exact absurd h (by simp)
  · (repeat' first | (refine Owe.same ?_; first | refine Owe.o ?_ | refine Owe.mk ?_ ?_) | (refine Fork.same ?_; (first | refine fkD ?_ ?_ | refine fkN ?_ ?_ | refine fkM ?_ ?_) <;> (intro h; try (exfalso; omega))) | refine MvQ.stay ?_)
    refine Sat.nilB 1 2 160 3 (fun i => r3 (([] : List Tr3).getD i (0, 0, 0))) rfl rfl ?_
    refine Sat.lp (fun st : Nat × Bool × List Tr3 => ⟨[(2, .c (.bp 0 0)), (4, .c (.bp 1 0)), (29, .c (sts R)), (30, vi .i64 R.length), (31, vi .i64 (st.1 : Int)), (6, vbl st.2.1)],
        [(0, .box [int 0, int 0, .d (.v (.slice none 0 0))]), (1, .box [int a, int b, .ms 2 st.2.2.length]), (2, rowv 160 3 r3 (0, 0, 0) st.2.2)], 3⟩)
      (fun st : Nat × Bool × List Tr3 => (st.1 ≤ R.length ∧ st.2.2.length = st.1) ∧ Hd (st.2.1 = true → hdP h0 = some (a, b) ∧ alL lkP (R.take st.1) = some st.2.2) ∧ Hd (st.2.1 = false → plV h0 R = ((0, 0, []), 7))) (fun st : Nat × Bool × List Tr3 => R.length - st.1) (0, ok, []) [0, 1, 25] ⟨⟨by simp, rfl⟩, ⟨fun h => ⟨hy h, rfl⟩⟩, ⟨fun h => plV_h (hn h)⟩⟩ ?_ ?_
    · (refine qis ?_ ?_ <;> (repeat' first | exact rfl | (refine qS ?_; constructor)))
      cases ok
      · exact VEq.c _ _ .fls
      · exact VEq.c _ _ .tru
    · rintro ⟨k, o, acc⟩ ⟨⟨hk, hal⟩, hx, ha⟩
      simp only at hk hal hx ha
      refine Fork.dec (fun hlt => ?_) (fun hlt => ?_)
      · have hk2 : k < R.length := by have hlt : (k : Int) < R.length := hlt; omega
        have hpl : (R.getD (k : Int).toNat []).length ≤ 60000 := hPx.h _ (List.mem_cons_of_mem h0 (getD_mem (l := R) [] hk2))
        cases o with
        | true =>
          (repeat' first | (refine Owe.same ?_; first | refine Owe.o ?_ | refine Owe.mk ?_ ?_) | (refine Fork.same ?_; (first | refine fkD ?_ ?_ | refine fkN ?_ ?_ | refine fkM ?_ ?_) <;> (intro h; try (exfalso; omega))) | refine MvQ.stay ?_)
          refine Ops.cs rfl rfl (fillL hpl ?_)
          intro ok2 x y z nx2 hnx2 hy2 hn2
          cases ok2 with
          | true =>
            have hn1 : hdP h0 = some (a, b) ∧ alL lkP (R.take (k + 1)) = some (acc ++ [(x, y, z)]) := ⟨(hx.h rfl).1, by rw [tk1 [] hk2, alL_app (hx.h rfl).2, show lkP (R.getD k []) = some (x, y, z) from hy2 rfl]⟩
            rcases hnx2 with rfl | rfl | rfl | rfl
            · (repeat' first | (refine Owe.same ?_; first | refine Owe.o ?_ | refine Owe.mk ?_ ?_) | (refine Fork.same ?_; (first | refine fkD ?_ ?_ | refine fkN ?_ ?_ | refine fkM ?_ ?_) <;> (intro h; try (exfalso; omega))) | refine MvQ.stay ?_)
              refine again (k + 1, true, acc ++ [(x, y, z)]) [0, 1, 5] ⟨⟨hk2, by simp; omega⟩, ⟨fun _ => hn1⟩, ⟨fun h => (by cases h)⟩⟩ (by show R.length - (k + 1) < R.length - k; omega) ?_
              (refine qis ?_ ?_ <;> (repeat' first | exact rfl | (refine qS ?_; constructor)))
              all_goals first | (simp; done) | exact VEq.c _ _ .fls | exact VEq.c _ _ .tru
            · (repeat' first | (refine Owe.same ?_; first | refine Owe.o ?_ | refine Owe.mk ?_ ?_) | (refine Fork.same ?_; (first | refine fkD ?_ ?_ | refine fkN ?_ ?_ | refine fkM ?_ ?_) <;> (intro h; try (exfalso; omega))) | refine MvQ.stay ?_)
              refine again (k + 1, true, acc ++ [(x, y, z)]) [0, 1, 16] ⟨⟨hk2, by simp; omega⟩, ⟨fun _ => hn1⟩, ⟨fun h => (by cases h)⟩⟩ (by show R.length - (k + 1) < R.length - k; omega) ?_
              (refine qis ?_ ?_ <;> (repeat' first | exact rfl | (refine qS ?_; constructor)))
              all_goals first | (simp; done) | exact VEq.c _ _ .fls | exact VEq.c _ _ .tru
            · (repeat' first | (refine Owe.same ?_; first | refine Owe.o ?_ | refine Owe.mk ?_ ?_) | (refine Fork.same ?_; (first | refine fkD ?_ ?_ | refine fkN ?_ ?_ | refine fkM ?_ ?_) <;> (intro h; try (exfalso; omega))) | refine MvQ.stay ?_)
              refine again (k + 1, true, acc ++ [(x, y, z)]) [0, 1, 27] ⟨⟨hk2, by simp; omega⟩, ⟨fun _ => hn1⟩, ⟨fun h => (by cases h)⟩⟩ (by show R.length - (k + 1) < R.length - k; omega) ?_
              (refine qis ?_ ?_ <;> (repeat' first | exact rfl | (refine qS ?_; constructor)))
              all_goals first | (simp; done) | exact VEq.c _ _ .fls | exact VEq.c _ _ .tru
            · (repeat' first | (refine Owe.same ?_; first | refine Owe.o ?_ | refine Owe.mk ?_ ?_) | (refine Fork.same ?_; (first | refine fkD ?_ ?_ | refine fkN ?_ ?_ | refine fkM ?_ ?_) <;> (intro h; try (exfalso; omega))) | refine MvQ.stay ?_)
              refine again (k + 1, true, acc ++ [(x, y, z)]) [0, 1, 38] ⟨⟨hk2, by simp; omega⟩, ⟨fun _ => hn1⟩, ⟨fun h => (by cases h)⟩⟩ (by show R.length - (k + 1) < R.length - k; omega) ?_
              (refine qis ?_ ?_ <;> (repeat' first | exact rfl | (refine qS ?_; constructor)))
              all_goals first | (simp; done) | exact VEq.c _ _ .fls | exact VEq.c _ _ .tru
          | false =>
            have hbad : plV h0 R = ((0, 0, []), 7) := plV_r (alL_take hk2 (hn2 rfl))
            rcases hnx2 with rfl | rfl | rfl | rfl
            · (repeat' first | (refine Owe.same ?_; first | refine Owe.o ?_ | refine Owe.mk ?_ ?_) | (refine Fork.same ?_; (first | refine fkD ?_ ?_ | refine fkN ?_ ?_ | refine fkM ?_ ?_) <;> (intro h; try (exfalso; omega))) | refine MvQ.stay ?_)
              refine again (k + 1, false, acc ++ [(x, y, z)]) [0, 1, 5] ⟨⟨hk2, by simp; omega⟩, ⟨fun h => (by cases h)⟩, ⟨fun _ => hbad⟩⟩ (by show R.length - (k + 1) < R.length - k; omega) ?_
              (refine qis ?_ ?_ <;> (repeat' first | exact rfl | (refine qS ?_; constructor)))
              all_goals first | (simp; done) | exact VEq.c _ _ .fls | exact VEq.c _ _ .tru
            · (repeat' first | (refine Owe.same ?_; first | refine Owe.o ?_ | refine Owe.mk ?_ ?_) | (refine Fork.same ?_; (first | refine fkD ?_ ?_ | refine fkN ?_ ?_ | refine fkM ?_ ?_) <;> (intro h; try (exfalso; omega))) | refine MvQ.stay ?_)
              refine again (k + 1, false, acc ++ [(x, y, z)]) [0, 1, 16] ⟨⟨hk2, by simp; omega⟩, ⟨fun h => (by cases h)⟩, ⟨fun _ => hbad⟩⟩ (by show R.length - (k + 1) < R.length - k; omega) ?_
              (refine qis ?_ ?_ <;> (repeat' first | exact rfl | (refine qS ?_; constructor)))
              all_goals first | (simp; done) | exact VEq.c _ _ .fls | exact VEq.c _ _ .tru
            · (repeat' first | (refine Owe.same ?_; first | refine Owe.o ?_ | refine Owe.mk ?_ ?_) | (refine Fork.same ?_; (first | refine fkD ?_ ?_ | refine fkN ?_ ?_ | refine fkM ?_ ?_) <;> (intro h; try (exfalso; omega))) | refine MvQ.stay ?_)
              refine again (k + 1, false, acc ++ [(x, y, z)]) [0, 1, 27] ⟨⟨hk2, by simp; omega⟩, ⟨fun h => (by cases h)⟩, ⟨fun _ => hbad⟩⟩ (by show R.length - (k + 1) < R.length - k; omega) ?_
              (refine qis ?_ ?_ <;> (repeat' first | exact rfl | (refine qS ?_; constructor)))
              all_goals first | (simp; done) | exact VEq.c _ _ .fls | exact VEq.c _ _ .tru
            · (repeat' first | (refine Owe.same ?_; first | refine Owe.o ?_ | refine Owe.mk ?_ ?_) | (refine Fork.same ?_; (first | refine fkD ?_ ?_ | refine fkN ?_ ?_ | refine fkM ?_ ?_) <;> (intro h; try (exfalso; omega))) | refine MvQ.stay ?_)
              refine again (k + 1, false, acc ++ [(x, y, z)]) [0, 1, 38] ⟨⟨hk2, by simp; omega⟩, ⟨fun h => (by cases h)⟩, ⟨fun _ => hbad⟩⟩ (by show R.length - (k + 1) < R.length - k; omega) ?_
              (refine qis ?_ ?_ <;> (repeat' first | exact rfl | (refine qS ?_; constructor)))
              all_goals first | (simp; done) | exact VEq.c _ _ .fls | exact VEq.c _ _ .tru
        | false =>
          have hbad := ha.h rfl
          (repeat' first | (refine Owe.same ?_; first | refine Owe.o ?_ | refine Owe.mk ?_ ?_) | (refine Fork.same ?_; (first | refine fkD ?_ ?_ | refine fkN ?_ ?_ | refine fkM ?_ ?_) <;> (intro h; try (exfalso; omega))) | refine MvQ.stay ?_)
          refine Ops.cs rfl rfl (fillL hpl ?_)
          intro ok2 x y z nx2 hnx2 hy2 hn2
          cases ok2 with
          | true =>
            rcases hnx2 with rfl | rfl | rfl | rfl
            · (repeat' first | (refine Owe.same ?_; first | refine Owe.o ?_ | refine Owe.mk ?_ ?_) | (refine Fork.same ?_; (first | refine fkD ?_ ?_ | refine fkN ?_ ?_ | refine fkM ?_ ?_) <;> (intro h; try (exfalso; omega))) | refine MvQ.stay ?_)
              refine again (k + 1, false, acc ++ [(x, y, z)]) [0, 1, 5] ⟨⟨hk2, by simp; omega⟩, ⟨fun h => (by cases h)⟩, ⟨fun _ => hbad⟩⟩ (by show R.length - (k + 1) < R.length - k; omega) ?_
              (refine qis ?_ ?_ <;> (repeat' first | exact rfl | (refine qS ?_; constructor)))
              all_goals first | (simp; done) | exact VEq.c _ _ .fls | exact VEq.c _ _ .tru
            · (repeat' first | (refine Owe.same ?_; first | refine Owe.o ?_ | refine Owe.mk ?_ ?_) | (refine Fork.same ?_; (first | refine fkD ?_ ?_ | refine fkN ?_ ?_ | refine fkM ?_ ?_) <;> (intro h; try (exfalso; omega))) | refine MvQ.stay ?_)
              refine again (k + 1, false, acc ++ [(x, y, z)]) [0, 1, 16] ⟨⟨hk2, by simp; omega⟩, ⟨fun h => (by cases h)⟩, ⟨fun _ => hbad⟩⟩ (by show R.length - (k + 1) < R.length - k; omega) ?_
              (refine qis ?_ ?_ <;> (repeat' first | exact rfl | (refine qS ?_; constructor)))
              all_goals first | (simp; done) | exact VEq.c _ _ .fls | exact VEq.c _ _ .tru
            · (repeat' first | (refine Owe.same ?_; first | refine Owe.o ?_ | refine Owe.mk ?_ ?_) | (refine Fork.same ?_; (first | refine fkD ?_ ?_ | refine fkN ?_ ?_ | refine fkM ?_ ?_) <;> (intro h; try (exfalso; omega))) | refine MvQ.stay ?_)
              refine again (k + 1, false, acc ++ [(x, y, z)]) [0, 1, 27] ⟨⟨hk2, by simp; omega⟩, ⟨fun h => (by cases h)⟩, ⟨fun _ => hbad⟩⟩ (by show R.length - (k + 1) < R.length - k; omega) ?_
              (refine qis ?_ ?_ <;> (repeat' first | exact rfl | (refine qS ?_; constructor)))
              all_goals first | (simp; done) | exact VEq.c _ _ .fls | exact VEq.c _ _ .tru
            · (repeat' first | (refine Owe.same ?_; first | refine Owe.o ?_ | refine Owe.mk ?_ ?_) | (refine Fork.same ?_; (first | refine fkD ?_ ?_ | refine fkN ?_ ?_ | refine fkM ?_ ?_) <;> (intro h; try (exfalso; omega))) | refine MvQ.stay ?_)
              refine again (k + 1, false, acc ++ [(x, y, z)]) [0, 1, 38] ⟨⟨hk2, by simp; omega⟩, ⟨fun h => (by cases h)⟩, ⟨fun _ => hbad⟩⟩ (by show R.length - (k + 1) < R.length - k; omega) ?_
              (refine qis ?_ ?_ <;> (repeat' first | exact rfl | (refine qS ?_; constructor)))
              all_goals first | (simp; done) | exact VEq.c _ _ .fls | exact VEq.c _ _ .tru
          | false =>
            rcases hnx2 with rfl | rfl | rfl | rfl
            · (repeat' first | (refine Owe.same ?_; first | refine Owe.o ?_ | refine Owe.mk ?_ ?_) | (refine Fork.same ?_; (first | refine fkD ?_ ?_ | refine fkN ?_ ?_ | refine fkM ?_ ?_) <;> (intro h; try (exfalso; omega))) | refine MvQ.stay ?_)
              refine again (k + 1, false, acc ++ [(x, y, z)]) [0, 1, 5] ⟨⟨hk2, by simp; omega⟩, ⟨fun h => (by cases h)⟩, ⟨fun _ => hbad⟩⟩ (by show R.length - (k + 1) < R.length - k; omega) ?_
              (refine qis ?_ ?_ <;> (repeat' first | exact rfl | (refine qS ?_; constructor)))
              all_goals first | (simp; done) | exact VEq.c _ _ .fls | exact VEq.c _ _ .tru
            · (repeat' first | (refine Owe.same ?_; first | refine Owe.o ?_ | refine Owe.mk ?_ ?_) | (refine Fork.same ?_; (first | refine fkD ?_ ?_ | refine fkN ?_ ?_ | refine fkM ?_ ?_) <;> (intro h; try (exfalso; omega))) | refine MvQ.stay ?_)
              refine again (k + 1, false, acc ++ [(x, y, z)]) [0, 1, 16] ⟨⟨hk2, by simp; omega⟩, ⟨fun h => (by cases h)⟩, ⟨fun _ => hbad⟩⟩ (by show R.length - (k + 1) < R.length - k; omega) ?_
              (refine qis ?_ ?_ <;> (repeat' first | exact rfl | (refine qS ?_; constructor)))
              all_goals first | (simp; done) | exact VEq.c _ _ .fls | exact VEq.c _ _ .tru
            · (repeat' first | (refine Owe.same ?_; first | refine Owe.o ?_ | refine Owe.mk ?_ ?_) | (refine Fork.same ?_; (first | refine fkD ?_ ?_ | refine fkN ?_ ?_ | refine fkM ?_ ?_) <;> (intro h; try (exfalso; omega))) | refine MvQ.stay ?_)
              refine again (k + 1, false, acc ++ [(x, y, z)]) [0, 1, 27] ⟨⟨hk2, by simp; omega⟩, ⟨fun h => (by cases h)⟩, ⟨fun _ => hbad⟩⟩ (by show R.length - (k + 1) < R.length - k; omega) ?_
              (refine qis ?_ ?_ <;> (repeat' first | exact rfl | (refine qS ?_; constructor)))
              all_goals first | (simp; done) | exact VEq.c _ _ .fls | exact VEq.c _ _ .tru
            · (repeat' first | (refine Owe.same ?_; first | refine Owe.o ?_ | refine Owe.mk ?_ ?_) | (refine Fork.same ?_; (first | refine fkD ?_ ?_ | refine fkN ?_ ?_ | refine fkM ?_ ?_) <;> (intro h; try (exfalso; omega))) | refine MvQ.stay ?_)
              refine again (k + 1, false, acc ++ [(x, y, z)]) [0, 1, 38] ⟨⟨hk2, by simp; omega⟩, ⟨fun h => (by cases h)⟩, ⟨fun _ => hbad⟩⟩ (by show R.length - (k + 1) < R.length - k; omega) ?_
              (refine qis ?_ ?_ <;> (repeat' first | exact rfl | (refine qS ?_; constructor)))
              all_goals first | (simp; done) | exact VEq.c _ _ .fls | exact VEq.c _ _ .tru
      · have hk1 : k = R.length := by
          have hlt : ¬ (k : Int) < R.length := hlt
          omega
        subst hk1
        have hacc : acc.length ≤ 1000000 := by omega
        cases o with
        | true =>
          obtain ⟨hh, ha2⟩ := hx.h rfl
          rw [List.take_length] at ha2
          rw [plV_y hh ha2]
          have h96 := C96 (x := a) (z := b) (l := acc) hacc
          by_cases h00 : (lineE a b acc).2 = 0
          · rw [if_pos h00]
            rw [h00] at h96
            (repeat' first | (refine Owe.same ?_; first | refine Owe.o ?_ | refine Owe.mk ?_ ?_) | (refine Fork.same ?_; (first | refine fkD ?_ ?_ | refine fkN ?_ ?_ | refine fkM ?_ ?_) <;> intro h))
            refine MvQ.frzX 1 2 2 rfl rfl rfl (Nat.le_refl _) ?_
            (repeat' first | (refine Owe.same ?_; first | refine Owe.o ?_ | refine Owe.mk ?_ ?_) | (refine Fork.same ?_; (first | refine fkY ?_ | refine fkF ?_ | ((first | refine fkD ?_ ?_ | refine fkN ?_ ?_ | refine fkM ?_ ?_) <;> (intro h; try (exfalso; omega))))) | ((first | refine OpsL.same ?_ | refine OpsDL.same ?_); first | refine oK h96 rfl rfl rfl ?_) | refine MvQ.stay ?_)
            (refine rqK rfl ?_; (repeat' first | exact rfl | (refine qS ?_; constructor)))
          · rw [if_neg h00]
            (repeat' first | (refine Owe.same ?_; first | refine Owe.o ?_ | refine Owe.mk ?_ ?_) | (refine Fork.same ?_; (first | refine fkD ?_ ?_ | refine fkN ?_ ?_ | refine fkM ?_ ?_) <;> intro h))
            refine MvQ.frzX 1 2 2 rfl rfl rfl (Nat.le_refl _) ?_
            (repeat' first | (refine Owe.same ?_; first | refine Owe.o ?_ | refine Owe.mk ?_ ?_) | (refine Fork.same ?_; (first | refine fkY ?_ | refine fkF ?_ | ((first | refine fkD ?_ ?_ | refine fkN ?_ ?_ | refine fkM ?_ ?_) <;> (intro h; try (exfalso; omega))))) | ((first | refine OpsL.same ?_ | refine OpsDL.same ?_); first | refine oK h96 rfl rfl rfl ?_) | refine MvQ.stay ?_)
            (refine rqK rfl ?_; (repeat' first | exact rfl | (refine qS ?_; constructor)))
        | false =>
          rw [ha.h rfl]
          (repeat' first | (refine Owe.same ?_; first | refine Owe.o ?_ | refine Owe.mk ?_ ?_) | (refine Fork.same ?_; (first | refine fkD ?_ ?_ | refine fkN ?_ ?_ | refine fkM ?_ ?_) <;> intro h))
          refine MvQ.frzX 1 2 2 rfl rfl rfl (Nat.le_refl _) ?_
          (repeat' first | (refine Owe.same ?_; first | refine Owe.o ?_ | refine Owe.mk ?_ ?_) | (refine Fork.same ?_; (first | refine fkD ?_ ?_ | refine fkN ?_ ?_ | refine fkM ?_ ?_) <;> (intro h; try (exfalso; omega))) | refine MvQ.stay ?_)
          · (refine rqK rfl ?_; (repeat' first | exact rfl | (refine qS ?_; constructor)))
          · exact absurd h (by simp)
end Go.Pw

set_option linter.unusedSimpArgs false
set_option linter.unusedVariables false
set_option maxHeartbeats 1000000
namespace Go.Pw
open Go.RowKit Go.Lib
set_option maxRecDepth 2000
open Go Go.Proofs A1 A2 A3 A4
end Go.Pw

set_option linter.unusedSimpArgs false
set_option linter.unusedVariables false
namespace Go.Pw
open Go.RowKit Go.Lib
set_option maxRecDepth 2000
open Go Go.Proofs A1 A2 A3 A4
abbrev srF (S : List Rg) (i : Nat) : Int := isqU (S.getD i (0, 0)).2
set_option maxHeartbeats 8000000 in
theorem C5 {x z : Int} {l : List Lk} {b : List Rg} {ps : List Int} (hx : i64P x) (hz : i64P z) (hw : ∀ i, i < ps.length → w64 (ps.getD i 0)) : PFD Tryz.prog 5 [.agg [int x, int z, trs l], .c (prs b), .c (ints ps)] (vbl true) := by
  by_cases hf : (l.length ≤ 10 ∧ b.length ≤ 10) ∧ ps.length ≤ 20
  · have hlc : l.length ≤ 1000000 ∧ b.length ≤ 1000000 := by omega
    have c22 := C22 (x := x) (z := z) (l := l) (by omega)
    have c23 := C23 (x := x) (z := z) (l := l) (b := b) (by omega)
    by_cases h0 : (lineE x z l).2 = 0
    · rw [h0] at c22
      by_cases h1 : (boxE l.length b).2 = 0
      · rw [h1] at c23
        have h01 := lineE_ok.1 h0
        have ho := lb_ok h01 h1
        have hL : (Ln.mk x z l b).Ok := lbE_ok ho
        have hbl : b.length = l.length := hL.b
        have hn : 0 < l.length ∧ l.length ≤ 10 := hL.k.n
        have hW := within_of (ps := ps) hL
        obtain ⟨hc0, hi0⟩ := hW.errs hL
        obtain ⟨ho1, ho2, hO⟩ := opn_of h01 hc0
        have hrg : ∀ i, i < l.length → (-50 ≤ (b.getD i (0, 0)).1 ∧ (b.getD i (0, 0)).1 ≤ 50) ∧ (-50 ≤ (b.getD i (0, 0)).2 ∧ (b.getD i (0, 0)).2 ≤ 50) ∧ (b.getD i (0, 0)).1 ≤ (b.getD i (0, 0)).2 := fun i hi => hL.rg hi
        have hl : ∀ d ∈ l, w64P d := fun d hd => by
          have := hL.k.l d hd
          simp only [lkOk] at this
          exact ⟨⟨by omega, by omega⟩, ⟨by omega, by omega⟩, ⟨by omega, by omega⟩⟩
        have hb : ∀ r ∈ b, w64Q r := fun r hr => by
          have := hL.c r hr
          simp only [curOk] at this
          exact ⟨⟨by omega, by omega⟩, ⟨by omega, by omega⟩⟩
        have c11 := C11 (x := x) (z := z) (l := l) (by omega)
        have c10 := C10 ⟨(show l.length ≤ 1000 by omega), hx, hz, hl⟩
        have c13 := C13 (l := b) (by omega)
        have c12 := C12 ⟨(show b.length ≤ 400 by omega), hb⟩
        have k1 := ln_len hx hz hl
        have k2 : (bxS b).length ≤ 1000 := by
          have h1 := wd_len (fl2_i64 hb); have h2 := fl2_len b
          show (wdS (fl2 b)).length ≤ _; omega
        have c14 := C14 (s := lnS x z l) (by omega)
        have c15 := C15 (s := bxS b) (by omega)
        rw [plE_S h0 (by omega)] at c14
        rw [bxE_S h1 (by omega)] at c15
        have c20 := C20 (x := x) (z := z) (l := l) (u := x) (v := z) (m := l) (by omega)
        have c21 := C21 (l := b) (m := b) (by omega)
        rw [decide_eq_true rfl] at c20 c21
        have c48 := C48 (x := x) (z := z) (l := l) (b := b) hlc
        rw [ho, orE, if_pos rfl] at c48
        have q3 := accL_len (sbF ⟨x, z, l, b⟩) l.length
        have hbd : ∀ k, k < l.length → _ := fun k hk => hO.bd (k + 1) hk
        have hbx : ∀ k, k < l.length → _ := fun k hk => hL.bd (k + 1) hk
        have hev := fun k (hk : k < l.length) => hW.each hL hk
        have q1 := accL_len (tnF (opL x z l (accL (cuF ps b) b.length))) l.length
        have g1 : ∀ k, k < l.length → (accL (tnF (opL x z l (accL (cuF ps b) b.length))) l.length).getD k (0, 0) = tnF (opL x z l (accL (cuF ps b) b.length)) k := fun k hk => accL_get _ hk
        have g3 : ∀ k, k < l.length → (accL (sbF ⟨x, z, l, b⟩) l.length).getD k (0, 0) = sbF ⟨x, z, l, b⟩ k := fun k hk => accL_get _ hk
        have hS : ∀ k, k < l.length → 0 ≤ ((accL (sbF ⟨x, z, l, b⟩) l.length).getD k (0, 0)).2 ∧ ((accL (sbF ⟨x, z, l, b⟩) l.length).getD k (0, 0)).2 ≤ 800000000 := fun k hk => by
          rw [g3 k hk]
          have hb := hbx k hk
          have m2 := mbd (a := frI (plF ⟨x, z, l, b⟩ k)) (b := frI (plF ⟨x, z, l, b⟩ k)) (A := 20000) (B := 20000) (by simp only [frI, plF]; omega) (by simp only [frI, plF]; omega)
          have m3 := mbd (a := (Ln.mk x z l b).pz (k + 1)) (b := (Ln.mk x z l b).pz (k + 1)) (A := 20000) (B := 20000) hb.2.2 hb.2.2
          have n2 := sq_nonneg (frI (plF ⟨x, z, l, b⟩ k))
          have n3 := sq_nonneg ((Ln.mk x z l b).pz (k + 1))
          simp only [sbF]
          omega
        have hTS : ∀ k, k < l.length → sqI ((accL (tnF (opL x z l (accL (cuF ps b) b.length))) l.length).getD k (0, 0)) ≤ ((accL (sbF ⟨x, z, l, b⟩) l.length).getD k (0, 0)).2 := fun k hk => by
          rw [g1 k hk, g3 k hk]; exact (hev k hk).2.2.2.1.2
        have hT1 : ∀ k, k < l.length → ((accL (tnF (opL x z l (accL (cuF ps b) b.length))) l.length).getD k (0, 0)).1 = (opL x z l (accL (cuF ps b) b.length)).pl (k + 1) := fun k hk => by rw [g1 k hk]
        have hTb : ∀ k, k < l.length → -20000 ≤ ((accL (tnF (opL x z l (accL (cuF ps b) b.length))) l.length).getD k (0, 0)).1 ∧ ((accL (tnF (opL x z l (accL (cuF ps b) b.length))) l.length).getD k (0, 0)).1 ≤ 20000 := fun k hk => by rw [hT1 k hk]; exact (hbd k hk).1
        have hcon := hW.con hL hO hT1
        have d2 := C52 (x := x) (z := z) (l := l) (c := accL (cuF ps b) b.length) (by rw [accL_len]; omega)
        have d3 := C53 (x := x) (z := z) (l := l) (c := accL (cuF ps b) b.length) (by rw [accL_len]; omega)
        rw [ho1, orE, if_pos rfl, ho2] at d2
        rw [ho1, if_pos rfl, if_pos rfl, ho2] at d3
        change PFD Tryz.prog 52 _ (.tup [.c (prs (accL (tnF (opL x z l (accL (cuF ps b) b.length))) l.length)), _]) at d2
        change PFD Tryz.prog 53 _ (.tup [vi .i64 (sgI (accL (tnF (opL x z l (accL (cuF ps b) b.length))) l.length) l.length : Nat), vi .i64 (sqI ((accL (tnF (opL x z l (accL (cuF ps b) b.length))) l.length).getD (sgI (accL (tnF (opL x z l (accL (cuF ps b) b.length))) l.length) l.length) (0, 0))), _]) at d3
        have d1 := C51 (x := x) (z := z) (l := l) (c := accL (cuF ps b) b.length) (s := accL (srF (accL (sbF ⟨x, z, l, b⟩) l.length)) b.length) (by rw [accL_len, accL_len]; omega)
        have hst : stE l.length (accL (srF (accL (sbF ⟨x, z, l, b⟩) l.length)) b.length) = 0 := by
          rw [stE, if_pos (by rw [accL_len]; exact hbl), eachE_ok]
          intro a ha
          obtain ⟨i, hi, rfl⟩ := List.getElem_of_mem ha
          rw [accL_len] at hi
          have e := accL_get (d := 0) (srF (accL (sbF ⟨x, z, l, b⟩) l.length)) hi
          rw [List.getD_eq_getElem?_getD, List.getElem?_eq_getElem (by rw [accL_len]; exact hi)] at e
          rw [show (accL (srF (accL (sbF ⟨x, z, l, b⟩) l.length)) b.length)[i] = _ from e, stErr, unl, unb_ok (by decide), decide_eq_true_eq]
          have h5 := hS i (by omega)
          exact (isqU_bd h5.1 h5.2).1
        have hbr : fltL (bkP (accL (tnF (opL x z l (accL (cuF ps b) b.length))) l.length) (accL (srF (accL (sbF ⟨x, z, l, b⟩) l.length)) b.length)) l.length = [] := no_broken _ fun i hi => by
          rw [accL_get (d := 0) _ (show i < b.length by omega)]
          have h5 := hS i hi
          have h6 := hTS i hi
          have h7 := (isqU_bd h5.1 h5.2).2
          exact Int.le_trans h6 h7
        rw [ho1, brE, if_pos rfl, hst, orE, if_pos rfl, hbr] at d1
        have hsg := sgI_lt (accL (tnF (opL x z l (accL (cuF ps b) b.length))) l.length) (by omega) l.length (by omega)
        rw [q1] at hsg
        have hQ : sqI ((accL (tnF (opL x z l (accL (cuF ps b) b.length))) l.length).getD (sgI (accL (tnF (opL x z l (accL (cuF ps b) b.length))) l.length) l.length) (0, 0)) ≤ maxS (accL (sbF ⟨x, z, l, b⟩) l.length) l.length :=
          Int.le_trans (hTS _ hsg) (maxS_le _ _ _ hsg)
        have d5 := C55 (x := x) (z := z) (l := l) (b := b) (r := accL (arF (accL (tnF (opL x z l (accL (cuF ps b) b.length))) l.length)) l.length) (s := []) ⟨by rw [accL_len]; omega, fun _ => hcon.2⟩
        rw [orE, show opR x z l b (accL (arF (accL (tnF (opL x z l (accL (cuF ps b) b.length))) l.length)) l.length) = 0 from (if_pos ho).trans hcon.1, if_pos rfl, if_pos rfl, if_pos rfl] at d5
        have d6 := C56 lenF_ok (x := x) (z := z) (l := l) (b := b) hlc
        have d7 := C57 lenF_ok (x := x) (z := z) (l := l) (c := accL (cuF ps b) b.length) (by rw [accL_len]; omega)
        have he1 : tgE (opb x z l b) = slkN x z l := by rw [tgE, if_pos ho]; exact slk_eq
        have he3 : tgE (opn x z l (accL (cuF ps b) b.length)) = slkN x z l := by rw [tgE, if_pos ho1, ho2]; exact slk_eq
        have hle : slkN x z l = 0 → (lenL lenF (opL x z l (accL (cuF ps b) b.length))).2 ≤ sumI (enF lenF ⟨x, z, l, b⟩) l.length := fun h2 =>
          (hW.all (tgE_ok (o := opb x z l b) (by rw [he1, h2]) fun h => lbE_ok h)).2.2.2.2.1
        rw [he1] at d6
        rw [he3, orP, ho2] at d7
        change PFD Tryz.prog 56 _ (.tup [vi .i64 (if slkN x z l = 0 then sumI (enF lenF ⟨x, z, l, b⟩) l.length else 0), _]) at d6
        have lc := accL_len (cuF ps b) b.length
        have c32 := C32 (l := accL (cuF ps b) b.length) (by omega)
        clear hcon hev g1 g3 hbd hbx hst hbr hT1 hTS hO ho2 he1 he3 ho1 hsg k1 k2 hc0 hi0
        generalize accL (tnF (opL x z l (accL (cuF ps b) b.length))) l.length = T at *
        generalize accL (sbF ⟨x, z, l, b⟩) l.length = S at *
        generalize sumI (enF lenF ⟨x, z, l, b⟩) l.length = E at *
        generalize lenL lenF (opL x z l (accL (cuF ps b) b.length)) = M at *
        generalize lnS x z l = Ls at *
        generalize bxS b = Bs at *
        refine pi1 fn5 ?_
        (repeat' first | (refine Owe.same ?_; first | refine Owe.o ?_ | refine Owe.mk ?_ ?_) | (refine Fork.same ?_; (first | refine fkY ?_ | refine fkF ?_ | ((first | refine fkD ?_ ?_ | refine fkN ?_ ?_ | refine fkM ?_ ?_) <;> (intro h; try (exfalso; omega))))) | ((first | refine OpsL.same ?_ | refine OpsDL.same ?_); first | refine oK C47 rfl rfl rfl ?_ | refine oK c22 rfl rfl rfl ?_ | refine oK c23 rfl rfl rfl ?_ | refine oK c11 rfl rfl rfl ?_ | refine oK c10 rfl rfl rfl ?_ | refine oK c14 rfl rfl rfl ?_ | refine oK c13 rfl rfl rfl ?_ | refine oK c12 rfl rfl rfl ?_ | refine oK c15 rfl rfl rfl ?_ | refine oK c20 rfl rfl rfl ?_ | refine oK c21 rfl rfl rfl ?_ | refine oK c48 rfl rfl rfl ?_) | refine MvQ.stay ?_)
        refine Sat.nilS 13 3 1 (fun i => r1 (([] : List Int).getD i 0)) rfl ?_
        refine Sat.nilS 14 3 1 (fun i => r1 (([] : List Int).getD i 0)) rfl ?_
        refine Sat.lp (fun k : Nat => ⟨[(15, vi .i64 k), (13, .c (.ms 1 (accL (cuF ps b) k).length)), (14, .c (.ms 2 (accL (srF S) k).length)), (3, .c (.rp (lnD x z l))), (1, .c (prs b)), (2, .c (ints ps)), (7, .c (.bp 0 0)), (9, .c (prs b)), (11, .c (prs S))],
            [(2, rowv 3 1 r1 0 (accL (srF S) k)), (1, rowv 3 1 r1 0 (accL (cuF ps b) k)), (0, .box [int x, int z, trs l])], 3⟩)
          (fun k => k ≤ b.length) (fun k => b.length - k) 0 [0, 1, 2] (Nat.zero_le _) ?_ ?_
        · (refine qis ?_ ?_ <;> (repeat' first | exact rfl | (refine qS ?_; constructor)))
        · intro k hk
          have hm1 := accL_len (cuF ps b) k
          have hm2 := accL_len (srF S) k
          have hm4 := accL_succ (cuF ps b) k
          have hm5 := accL_succ (srF S) k
          refine Fork.dec (fun hlt => ?_) (fun hlt => ?_)
          · have hlt : k < b.length := by omega
            have hr := hrg k (by omega)
            have hkb := kfI_bd (ps := ps) hr.2.2
            have h5 := hS k (by omega)
            have h6 := isqU_bd h5.1 h5.2
            have c46 := C46 (n := (S.getD k (0, 0)).2) (lo := 0) (hi := 800000000)
            rw [decide_eq_true h5] at c46
            have c50 := C50 (n := (S.getD k (0, 0)).2) (by omega)
            by_cases hp : 0 < ps.length
            · have hmd : 0 ≤ (k : Int).tmod ps.length ∧ (k : Int).tmod ps.length < ps.length := ⟨Int.tmod_nonneg _ (by omega), Int.tmod_lt_of_pos _ (by omega)⟩
              have hwk := hw ((k : Int).tmod ps.length).toNat (by omega)
              have c3 := C49w (n := ps.getD ((k : Int).tmod ps.length).toNat 0) (b := (b.getD k (0, 0)).2 - (b.getD k (0, 0)).1 + 1) ⟨hwk, by omega, by simp only [Md]; omega⟩
              have ek : kfI ps b k = ps.getD ((k : Int).tmod ps.length).toNat 0 % ((b.getD k (0, 0)).2 - (b.getD k (0, 0)).1 + 1) := if_pos hp
              rw [← ek] at c3
              simp only [srF, cuF] at hm4 hm5
              generalize kfI ps b k = K at *
              generalize isqU (S.getD k (0, 0)).2 = U at *
              (repeat' first | (refine Owe.same ?_; first | refine Owe.o ?_ | refine Owe.mk ?_ ?_) | (refine Fork.same ?_; (first | refine fkY ?_ | refine fkF ?_ | ((first | refine fkD ?_ ?_ | refine fkN ?_ ?_ | refine fkM ?_ ?_) <;> (intro h; try (exfalso; omega))))) | ((first | refine OpsL.same ?_ | refine OpsDL.same ?_); first | refine oK c3 rfl rfl rfl ?_ | refine oK c46 rfl rfl rfl ?_ | refine oK c50 rfl rfl rfl ?_) | refine MvQ.stay ?_)
              refine again (k + 1) [0, 32, 40] hlt (by omega) ?_
              (refine qis ?_ ?_ <;> (repeat' first | exact rfl | (refine qS ?_; constructor)))
              · rw [hm4]; simp
              · rw [hm5]; simp
              · exact hm5
              · exact hm4
            · have ek : kfI ps b k = 0 := if_neg hp
              simp only [srF, cuF, ek] at hm4 hm5
              generalize isqU (S.getD k (0, 0)).2 = U at *
              (repeat' first | (refine Owe.same ?_; first | refine Owe.o ?_ | refine Owe.mk ?_ ?_) | (refine Fork.same ?_; (first | refine fkY ?_ | refine fkF ?_ | ((first | refine fkD ?_ ?_ | refine fkN ?_ ?_ | refine fkM ?_ ?_) <;> (intro h; try (exfalso; omega))))) | ((first | refine OpsL.same ?_ | refine OpsDL.same ?_); first | refine oK c46 rfl rfl rfl ?_ | refine oK c50 rfl rfl rfl ?_) | refine MvQ.stay ?_)
              refine again (k + 1) [0, 12, 20] hlt (by omega) ?_
              (refine qis ?_ ?_ <;> (repeat' first | exact rfl | (refine qS ?_; constructor)))
              · rw [hm4]; simp
              · rw [hm5]; simp
              · exact hm5
              · exact hm4
          · have : k = b.length := by omega
            subst this
            (repeat' first | (refine Owe.same ?_; first | refine Owe.o ?_ | refine Owe.mk ?_ ?_) | (refine Fork.same ?_; (first | refine fkD ?_ ?_ | refine fkN ?_ ?_ | refine fkM ?_ ?_) <;> intro h))
            refine MvQ.frz 13 _ rfl rfl (Nat.le_refl _) ?_
            refine MvQ.frz 14 _ rfl rfl (Nat.le_refl _) ?_
            have lc2 := accL_len (srF S) b.length
            generalize sqI (T.getD (sgI T l.length) (0, 0)) = Q at *
            (repeat' first | (refine Owe.same ?_; first | refine Owe.o ?_ | refine Owe.mk ?_ ?_) | (refine Fork.same ?_; (first | refine fkY ?_ | refine fkF ?_ | ((first | refine fkD ?_ ?_ | refine fkN ?_ ?_ | refine fkM ?_ ?_) <;> (intro h; try (exfalso; omega))))) | ((first | refine OpsL.same ?_ | refine OpsDL.same ?_); first | refine oK c11 rfl rfl rfl ?_ | refine oK c32 rfl rfl rfl ?_ | refine oK d1 rfl rfl rfl ?_ | refine oK d2 rfl rfl rfl ?_ | refine oK d3 rfl rfl rfl ?_) | refine MvQ.stay ?_)
            refine Sat.nilS 24 92 3 (fun i => r3 (([] : List Lk).getD i (0, 0, 0))) rfl ?_
            refine Sat.lp (fun k : Nat => ⟨[(26, vi .i64 k), (24, .c (.ms 1 (accL (arF T) k).length)), (25, vi .i64 (maxS S k)), (19, .c (prs T)), (11, .c (prs S)), (3, .c (.rp (lnD x z l))), (1, .c (prs b)), (7, .c (.bp 0 0)), (9, .c (prs b)), (13, .c (ints (accL (cuF ps b) b.length))), (22, vi .i64 Q)],
                [(1, rowv 92 3 r3 (0, 0, 0) (accL (arF T) k)), (0, .box [int x, int z, trs l])], 2⟩)
              (fun k => k ≤ l.length) (fun k => l.length - k) 0 [0, 3] (Nat.zero_le _) ?_ ?_
            · (refine qis ?_ ?_ <;> (repeat' first | exact rfl | (refine qS ?_; constructor)))
            · intro k hk
              have hm1 := accL_len (arF T) k
              have hm4 := accL_succ (arF T) k
              refine Fork.dec (fun hlt => ?_) (fun hlt => ?_)
              · have hlt : k < l.length := by omega
                have hTk := hTb k hlt
                have c54 := C54 (n := (T.getD k (0, 0)).1) (by omega)
                have hmx : max (maxS S k) (S.getD k (0, 0)).2 = maxS S (k + 1) := rfl
                (repeat' first | (refine Owe.same ?_; first | refine Owe.o ?_ | refine Owe.mk ?_ ?_) | (refine Fork.same ?_; (first | refine fkY ?_ | refine fkF ?_ | ((first | refine fkD ?_ ?_ | refine fkN ?_ ?_ | refine fkM ?_ ?_) <;> (intro h; try (exfalso; omega))))) | ((first | refine OpsL.same ?_ | refine OpsDL.same ?_); first | refine oK c54 rfl rfl rfl ?_) | refine MvQ.stay ?_)
                refine again (k + 1) [0, 17] hlt (by omega) ?_
                (refine qis ?_ ?_ <;> (repeat' first | exact rfl | (refine qS ?_; constructor)))
                · rw [hm4]; simp
                · exact hm4
              · have : k = l.length := by omega
                subst this
                (repeat' first | (refine Owe.same ?_; first | refine Owe.o ?_ | refine Owe.mk ?_ ?_) | (refine Fork.same ?_; (first | refine fkD ?_ ?_ | refine fkN ?_ ?_ | refine fkM ?_ ?_) <;> intro h))
                refine MvQ.frz 24 _ rfl rfl (Nat.le_refl _) ?_
                by_cases h2 : slkN x z l = 0
                · have hle := hle h2
                  rw [h2, if_pos rfl] at d6 d7
                  (repeat' first | (refine Owe.same ?_; first | refine Owe.o ?_ | refine Owe.mk ?_ ?_) | (refine Fork.same ?_; (first | refine fkY ?_ | refine fkF ?_ | ((first | refine fkD ?_ ?_ | refine fkN ?_ ?_ | refine fkM ?_ ?_) <;> (intro h; try (exfalso; omega))))) | ((first | refine OpsL.same ?_ | refine OpsDL.same ?_); first | refine oK c11 rfl rfl rfl ?_ | refine oK c13 rfl rfl rfl ?_ | refine oK d5 rfl rfl rfl ?_ | refine oK d6 rfl rfl rfl ?_ | refine oK d7 rfl rfl rfl ?_) | refine MvQ.stay ?_)
                  (refine rqK rfl ?_; (repeat' first | exact rfl | (refine qS ?_; constructor)))
                  exact decide_eq_true hle
                · rw [if_neg h2] at d6 d7
                  (repeat' first | (refine Owe.same ?_; first | refine Owe.o ?_ | refine Owe.mk ?_ ?_) | (refine Fork.same ?_; (first | refine fkY ?_ | refine fkF ?_ | ((first | refine fkD ?_ ?_ | refine fkN ?_ ?_ | refine fkM ?_ ?_) <;> (intro h; try (exfalso; omega))))) | ((first | refine OpsL.same ?_ | refine OpsDL.same ?_); first | refine oK c11 rfl rfl rfl ?_ | refine oK c13 rfl rfl rfl ?_ | refine oK d5 rfl rfl rfl ?_ | refine oK d6 rfl rfl rfl ?_ | refine oK d7 rfl rfl rfl ?_) | refine MvQ.stay ?_)
                  (refine rqK rfl ?_; (repeat' first | exact rfl | (refine qS ?_; constructor)))
      · refine pi1 fn5 ?_
        (repeat' first | (refine Owe.same ?_; first | refine Owe.o ?_ | refine Owe.mk ?_ ?_) | (refine Fork.same ?_; (first | refine fkY ?_ | refine fkF ?_ | ((first | refine fkD ?_ ?_ | refine fkN ?_ ?_ | refine fkM ?_ ?_) <;> (intro h; try (exfalso; omega))))) | ((first | refine OpsL.same ?_ | refine OpsDL.same ?_); first | refine oK C47 rfl rfl rfl ?_ | refine oK c22 rfl rfl rfl ?_ | refine oK c23 rfl rfl rfl ?_) | refine MvQ.stay ?_)
        all_goals (refine rqK rfl ?_; (repeat' first | exact rfl | (refine qS ?_; constructor)))
    · refine pi1 fn5 ?_
      (repeat' first | (refine Owe.same ?_; first | refine Owe.o ?_ | refine Owe.mk ?_ ?_) | (refine Fork.same ?_; (first | refine fkY ?_ | refine fkF ?_ | ((first | refine fkD ?_ ?_ | refine fkN ?_ ?_ | refine fkM ?_ ?_) <;> (intro h; try (exfalso; omega))))) | ((first | refine OpsL.same ?_ | refine OpsDL.same ?_); first | refine oK C47 rfl rfl rfl ?_ | refine oK c22 rfl rfl rfl ?_) | refine MvQ.stay ?_)
      all_goals (refine rqK rfl ?_; (repeat' first | exact rfl | (refine qS ?_; constructor)))
  · refine pi1 fn5 ?_
    (repeat' first | (refine Owe.same ?_; first | refine Owe.o ?_ | refine Owe.mk ?_ ?_) | (refine Fork.same ?_; (first | refine fkY ?_ | refine fkF ?_ | ((first | refine fkD ?_ ?_ | refine fkN ?_ ?_ | refine fkM ?_ ?_) <;> (intro h; try (exfalso; omega))))) | ((first | refine OpsL.same ?_ | refine OpsDL.same ?_); first | refine oK C47 rfl rfl rfl ?_) | refine MvQ.stay ?_)
    all_goals (refine rqK rfl ?_; (repeat' first | exact rfl | (refine qS ?_; constructor)))
end Go.Pw

set_option linter.unusedVariables false
namespace Go.Proofs.YtailfkllanegeaaGreatDoor
open Go.ChangeShapes Go.WideShapes Go.ChangeAt Go.RowKit Go.Pw
abbrev laids : List (String × DataW Unit) := Rows.cableStringsRow.laid
theorem var_at {W : World} {name : String} {g : Nat} {cs : Array Value} (hg : Tryz.prog.globalNamed name = some g) (hv : World.var? Tryz.prog W name = some cs) : ∃ t fr, W.heap[g]? = some (.cells cs t fr) := by
  unfold World.var? at hv
  rw [hg, Option.bind_some] at hv
  split at hv
  · rename_i cs' t fr h
    cases hv
    exact ⟨t, fr, h⟩
  · cases hv
set_option maxRecDepth 100000 in
theorem ifc_at {W : World} {name : String} {g : Nat} {cs : Array Value} {fuel : Nat} {d : DataW Unit} {p : List MemPlace} {b : Nat} {sp : Nat → Bool} {hd : Bool} {enc : TypeId × Value → Unit} (hg : Tryz.prog.globalNamed name = some g) (hv : World.var? Tryz.prog W name = some cs)
    (h : DataW.trod enc Tryz.prog W b sp hd fuel 258 cs.toList = some (d, p)) : ifcW W g := by
  obtain ⟨t, fr, hh⟩ := var_at hg hv
  cases fuel with
  | zero => simp [DataW.trod] at h
  | succ fuel =>
    have hu := Tryz.underlying258
    generalize #[("Error", 261)] = ms at hu
    obtain ⟨l⟩ := cs
    simp only [DataW.trod, hu] at h
    split at h
    all_goals first
      | (have q := (by assumption : some (TypeDesc.interface ms) = some _); injection q with q; cases q; done)
      | (cases h; done)
      | exact ⟨.nilIface, by rw [Lib.cell_of_heap hh]; rfl, .inl rfl⟩
      | exact ⟨_, by rw [Lib.cell_of_heap hh]; rfl, .inr ⟨_, _, rfl⟩⟩
set_option maxRecDepth 100000 in
/-- What the listed variables hold. -/
theorem of_laid {W : World} (h : laidMetH Tryz.prog laids W) : LaidW W := by
  rw [MakeChecks.laidMetH_plain _ _ _ (by kernel_rfl)] at h
  obtain ⟨ps, ⟨g0, t0, cs0, f0, p0, q0, hg0, ht0, hv0, hd0, ⟨g1, t1, cs1, f1, p1, q1, hg1, ht1, hv1, hd1, ⟨g2, t2, cs2, f2, p2, q2, hg2, ht2, hv2, hd2, ⟨g3, t3, cs3, f3, p3, q3, hg3, ht3, hv3, hd3, ⟨g4, t4, cs4, f4, p4, q4, hg4, ht4, hv4, hd4, ⟨g5, t5, cs5, f5, p5, q5, hg5, ht5, hv5, hd5, _⟩, _⟩, _⟩, _⟩, _⟩, _⟩, _⟩ := h
  have e2 : g2 = 5 := Option.some.inj (hg2.symm.trans sh_laysM171.m17)
  have e4 : g4 = 2 := Option.some.inj (hg4.symm.trans sh_laysC172.m16)
  have e5 : g5 = 1 := Option.some.inj (hg5.symm.trans sh_laysC172.m15)
  subst e2; subst e4; subst e5
  have k2 : t2 = 361 := Option.some.inj (ht2.symm.trans (by kernel_rfl))
  have k4 : t4 = 258 := Option.some.inj (ht4.symm.trans (by kernel_rfl))
  have k5 : t5 = 258 := Option.some.inj (ht5.symm.trans (by kernel_rfl))
  subst k2; subst k4; subst k5
  refine ⟨?_, ifc_at hg5 hv5 hd5, ifc_at hg4 hv4 hd4⟩
  obtain ⟨t, fr, hh⟩ := var_at hg2 hv2
  have hcs := Lib.cells_of_tab (k := .u64) (zs := Lib.pow10Tab) Tryz.underlying361 Tryz.underlying298 (by kernel_rfl) (by kernel_rfl) hd2
  refine ⟨t, fr, ?_⟩
  rw [hh]
  obtain ⟨l⟩ := cs2
  simp only at hcs
  rw [hcs]
end Go.Proofs.YtailfkllanegeaaGreatDoor
