/- Proved here at the end: the row named in the last theorem, on no condition. -/
import Derived.Test.YtnimcgmgnmlfgaaGreatDiveBoundedE
import Derived.Test.YtnimcgmgnmlfgaaGreatRows
set_option linter.unusedSimpArgs false
set_option linter.unusedVariables false
set_option maxHeartbeats 16000000
namespace Go.Pw
set_option maxRecDepth 2000
open Go Go.Proofs A1 A2 A3 A4
theorem C7 {s : Si} {t : St8} {l : List Int} {p : Int × Int} {n : Int} (hp : w64 p.1 ∧ w64 p.2) (hn : w64 n) : PFD Tryz.prog 7 [siv s, stv t, .agg [ints l, int p.1, int p.2, int n]] (vbl true) := by
  have f1 := C9 (s := s)
  have f2 := C10 (t := t)
  by_cases hf : fewP s
  rotate_left
  · rw [fewB, decide_eq_false hf] at f1
    refine pi1 fn7 ?_
    (repeat' first | (refine Owe.same ?_; first | refine Owe.o ?_ | refine Owe.mk ?_ ?_) | (refine Fork.same ?_; (first | refine fkY ?_ | refine fkF ?_ | ((first | refine fkD ?_ ?_ | refine fkN ?_ ?_ | refine fkM ?_ ?_) <;> intro h))) | ((first | refine OpsL.same ?_ | refine OpsDL.same ?_); first | refine oK C8 rfl rfl rfl ?_ | refine oK f1 rfl rfl rfl ?_) | refine MvQ.stay ?_)
    (refine rqK rfl ?_; (repeat' first | exact rfl | (refine qS ?_; constructor)))
  rw [fewB, decide_eq_true hf] at f1
  have hs := (Few.of hf).sm
  by_cases hd : (t.d.length : Int) ≤ 8
  rotate_left
  · rw [decide_eq_false hd] at f2
    refine pi1 fn7 ?_
    (repeat' first | (refine Owe.same ?_; first | refine Owe.o ?_ | refine Owe.mk ?_ ?_) | (refine Fork.same ?_; (first | refine fkY ?_ | refine fkF ?_ | ((first | refine fkD ?_ ?_ | refine fkN ?_ ?_ | refine fkM ?_ ?_) <;> intro h))) | ((first | refine OpsL.same ?_ | refine OpsDL.same ?_); first | refine oK C8 rfl rfl rfl ?_ | refine oK f1 rfl rfl rfl ?_ | refine oK f2 rfl rfl rfl ?_) | refine MvQ.stay ?_)
    (refine rqK rfl ?_; (repeat' first | exact rfl | (refine qS ?_; constructor)))
  rw [decide_eq_true hd] at f2
  by_cases hl : (l.length : Int) > 6
  · refine pi1 fn7 ?_
    (repeat' first | (refine Owe.same ?_; first | refine Owe.o ?_ | refine Owe.mk ?_ ?_) | (refine Fork.same ?_; (first | refine fkY ?_ | refine fkF ?_ | ((first | refine fkD ?_ ?_ | refine fkN ?_ ?_ | refine fkM ?_ ?_) <;> intro h))) | ((first | refine OpsL.same ?_ | refine OpsDL.same ?_); first | refine oK C8 rfl rfl rfl ?_ | refine oK f1 rfl rfl rfl ?_ | refine oK f2 rfl rfl rfl ?_) | refine MvQ.stay ?_)
    all_goals first | (exfalso; omega) | (refine rqK rfl ?_; (repeat' first | exact rfl | (refine qS ?_; constructor)))
  have c1 := C12 hs
  have c2 := C13 (t := t) (by omega)
  have c5 := C16 (s := s) (t := t) ⟨hs, by omega⟩
  by_cases h0 : onE s t = 0
  rotate_left
  · generalize onE s t = e at *
    refine pi1 fn7 ?_
    (repeat' first | (refine Owe.same ?_; first | refine Owe.o ?_ | refine Owe.mk ?_ ?_) | (refine Fork.same ?_; (first | refine fkY ?_ | refine fkF ?_ | ((first | refine fkD ?_ ?_ | refine fkN ?_ ?_ | refine fkM ?_ ?_) <;> intro h))) | ((first | refine OpsL.same ?_ | refine OpsDL.same ?_); first | refine oK C8 rfl rfl rfl ?_ | refine oK f1 rfl rfl rfl ?_ | refine oK f2 rfl rfl rfl ?_ | refine oK c5 rfl rfl rfl ?_) | refine MvQ.stay ?_)
    all_goals first | exact absurd (by assumption) h0 | (exfalso; omega) | (refine rqK rfl ?_; (repeat' first | exact rfl | (refine qS ?_; constructor)))
  have hO := OnOk.of h0
  have hsi : (siE s).2 = 0 := by
    refine Decidable.byContradiction fun h => ?_
    rw [onE_of h] at h0; exact h h0
  have c6 := C28 hO.b
  rw [h0] at c5
  by_cases hr : reB s t = true
  rotate_left
  · have hr : reB s t = false := by simpa using hr
    rw [hr] at c6
    refine pi1 fn7 ?_
    (repeat' first | (refine Owe.same ?_; first | refine Owe.o ?_ | refine Owe.mk ?_ ?_) | (refine Fork.same ?_; (first | refine fkY ?_ | refine fkF ?_ | ((first | refine fkD ?_ ?_ | refine fkN ?_ ?_ | refine fkM ?_ ?_) <;> intro h))) | ((first | refine OpsL.same ?_ | refine OpsDL.same ?_); first | refine oK C8 rfl rfl rfl ?_ | refine oK f1 rfl rfl rfl ?_ | refine oK f2 rfl rfl rfl ?_ | refine oK c5 rfl rfl rfl ?_ | refine oK c6 rfl rfl rfl ?_) | refine MvQ.stay ?_)
    all_goals first | (exfalso; omega) | (refine rqK rfl ?_; (repeat' first | exact rfl | (refine qS ?_; constructor)))
  rw [hr] at c6
  have c8 := C42 hp
  by_cases hz : prcE p = 0
  rotate_left
  · generalize prcE p = e at *
    refine pi1 fn7 ?_
    (repeat' first | (refine Owe.same ?_; first | refine Owe.o ?_ | refine Owe.mk ?_ ?_) | (refine Fork.same ?_; (first | refine fkY ?_ | refine fkF ?_ | ((first | refine fkD ?_ ?_ | refine fkN ?_ ?_ | refine fkM ?_ ?_) <;> intro h))) | ((first | refine OpsL.same ?_ | refine OpsDL.same ?_); first | refine oK C8 rfl rfl rfl ?_ | refine oK f1 rfl rfl rfl ?_ | refine oK f2 rfl rfl rfl ?_ | refine oK c5 rfl rfl rfl ?_ | refine oK c6 rfl rfl rfl ?_ | refine oK c8 rfl rfl rfl ?_) | refine MvQ.stay ?_)
    all_goals first | exact absurd (by assumption) hz | (exfalso; omega) | (refine rqK rfl ?_; (repeat' first | exact rfl | (refine qS ?_; constructor)))
  have hpo := prcE.ok hz
  rw [hz] at c8
  have eo : orE s t = 0 := by rw [orE, if_pos h0, if_pos hr]
  have eb : bdE s t p = 0 := by rw [bdE, if_pos eo, hz]
  have hw := reB_w hO.b hr
  have n6 := hO.ok.n
  have cb := C22 (s := s) (t := t) ⟨hs, by omega⟩
  rw [eo, if_pos rfl, if_pos rfl] at cb
  have cl := C14 (l := l) (by omega)
  have ccl := C32 (s := s) (t := t) (l := l) ⟨hs, by omega, by omega⟩
  obtain ⟨b1, b2, b3, b4⟩ := best_is (pm := fun _ => true) hO
  have hB : bestPp (fun _ => true) s t = bestP s t := by
    rw [← bestPp_nil]; exact gpF_ext (fun k _ => by simp [pmL]) _ _ _ _
  rw [hB] at b1 b2 b3 b4
  have hBl : (bestP s t).1.length ≤ 6 := by have := acP_len hO b1; omega
  have cbc := C14 (l := (bestP s t).1) (by omega)
  have ccb := C32 (s := s) (t := t) (l := (bestP s t).1) ⟨hs, by omega, by omega⟩
  have ecb : cpE s t (bestP s t).1 = ((bestP s t).2, 0) := by rw [cpE, if_pos h0, if_pos (acP_pr.1 b1), b2]
  rw [ecb] at ccb
  have c3 := C39 (s := s) (t := t) (p := p) ⟨hs, by omega, hp⟩
  rw [eb, if_pos rfl] at c3
  have c4 := C40 (s := s) (t := t) ⟨hs, by omega⟩
  rw [eo, if_pos rfl, if_pos rfl] at c4
  have hbo := bsF_ok (t := t) hO.ok s.tk.length (Nat.le_refl _)
  have s1 := bdF_sm hO hpo
  have s2 := bdF_sm hO hbo
  have wf : ∀ {q : Int × Int}, frSm q → w64 q.1 ∧ w64 q.2 := fun ⟨⟨a1, a2⟩, a3, a4⟩ => ⟨⟨by omega, by omega⟩, by omega, by omega⟩
  have cL1 := C44 (p := bdF s t p) (wf s1)
  have cL2 := C44 (p := bdF s t (bpr s t)) (wf s2)
  rw [decide_eq_true (frac_lw hpo.2.1)] at cL1
  rw [decide_eq_true (frac_lw hbo.2.1)] at cL2
  have vb := vaP_bd hO.ok (prE_tk hO (acP_pr.1 b1)) (bestP s t).1.length (Nat.le_refl _)
  have vb : 0 ≤ (bestP s t).2 ∧ (bestP s t).2 ≤ 60000 := by rw [← b2]; simp only [vaI]; omega
  have cC1 := C45 (a := bdF s t (bpr s t)) (b := bdF s t p) ⟨s2, s1⟩
  have cC2 := C45 (a := bdF s t (bpr s t)) (b := ((bestP s t).2, 1)) ⟨s2, by omega⟩
  have k1 := cmpF_le.2 (bpr_least hO hw hpo)
  have k2 := plan_le (pm := fun _ => true) (p := bpr s t) hbo hO hw b1
  rw [b2] at k2
  have cbf := C46b (l := l) (m := (bestP s t).1) ⟨by omega, by omega⟩
  have hcp : (cpE s t l).2 = 0 → (cpE s t l).1 ≤ (bestP s t).2 ∧ ((cpE s t l).1 = (bestP s t).2 → bfL l (bestP s t).1 = false) := fun h => by
    rw [cpE, if_pos h0] at h ⊢
    split at h
    · rename_i hq
      rw [if_pos hq]
      have ha := acP_pr.2 hq
      exact ⟨b3 l ha, b4 l ha⟩
    · rename_i hq; rw [if_neg hq] at *; exact absurd h hq
  have cbf' : PFD Tryz.prog 46 [.c (ints l), .c (ints (bestP s t).1)] (vbl false) ∨ ¬ ((cpE s t l).2 = 0 ∧ (cpE s t l).1 = (bestP s t).2) := by
    by_cases h : (cpE s t l).2 = 0 ∧ (cpE s t l).1 = (bestP s t).2
    · left; rw [← (hcp h.1).2 h.2]; exact cbf
    · exact .inr h
  have hcl : (cpE s t l).2 = 0 → (cpE s t l).1 ≤ (bestP s t).2 := fun h => (hcp h).1
  clear hcp cbf
  by_cases hN : s.tk.length = 0
  · clear b1 b2 b3 b4 ecb
    generalize cmpF (bdF s t (bpr s t)) ((bestP s t).2, 1) = V at *
    generalize cmpF (bdF s t (bpr s t)) (bdF s t p) = U at *
    generalize bdF s t (bpr s t) = G at *
    generalize bdF s t p = F at *
    generalize bpr s t = R at *
    generalize cpE s t l = cf at *
    generalize bestP s t = B at *
    refine pi1 fn7 ?_
    (repeat' first | (refine Owe.same ?_; first | refine Owe.o ?_ | refine Owe.mk ?_ ?_) | (refine Fork.same ?_; (first | refine fkY ?_ | refine fkF ?_ | ((first | refine fkD ?_ ?_ | refine fkN ?_ ?_ | refine fkM ?_ ?_) <;> intro h))) | ((first | refine OpsL.same ?_ | refine OpsDL.same ?_); first | refine oK C8 rfl rfl rfl ?_ | refine oK f1 rfl rfl rfl ?_ | refine oK f2 rfl rfl rfl ?_ | refine oK c5 rfl rfl rfl ?_ | refine oK c6 rfl rfl rfl ?_ | refine oK c8 rfl rfl rfl ?_) | refine MvQ.stay ?_)
    rcases cbf' with cbf' | cbf'
    · (repeat' first | (refine Owe.same ?_; first | refine Owe.o ?_ | refine Owe.mk ?_ ?_) | (refine Fork.same ?_; (first | refine fkY ?_ | refine fkF ?_ | ((first | refine fkD ?_ ?_ | refine fkN ?_ ?_ | refine fkM ?_ ?_) <;> intro h))) | ((first | refine OpsL.same ?_ | refine OpsDL.same ?_); first | refine oK c1 rfl rfl rfl ?_ | refine oK c2 rfl rfl rfl ?_ | refine oK cb rfl rfl rfl ?_ | refine oK cl rfl rfl rfl ?_ | refine oK cbc rfl rfl rfl ?_ | refine oK ccl rfl rfl rfl ?_ | refine oK ccb rfl rfl rfl ?_ | refine oK c3 rfl rfl rfl ?_ | refine oK c4 rfl rfl rfl ?_ | refine oK cL1 rfl rfl rfl ?_ | refine oK cL2 rfl rfl rfl ?_ | refine oK cC1 rfl rfl rfl ?_ | refine oK cC2 rfl rfl rfl ?_ | refine oK cbf' rfl rfl rfl ?_) | refine MvQ.stay ?_)
      all_goals (refine rqK rfl ?_; (repeat' first | exact rfl | (refine qS ?_; constructor)))
    · (repeat' first | (refine Owe.same ?_; first | refine Owe.o ?_ | refine Owe.mk ?_ ?_) | (refine Fork.same ?_; (first | refine fkY ?_ | refine fkF ?_ | ((first | refine fkD ?_ ?_ | refine fkN ?_ ?_ | refine fkM ?_ ?_) <;> intro h))) | ((first | refine OpsL.same ?_ | refine OpsDL.same ?_); first | refine oK c1 rfl rfl rfl ?_ | refine oK c2 rfl rfl rfl ?_ | refine oK cb rfl rfl rfl ?_ | refine oK cl rfl rfl rfl ?_ | refine oK cbc rfl rfl rfl ?_ | refine oK ccl rfl rfl rfl ?_ | refine oK ccb rfl rfl rfl ?_ | refine oK c3 rfl rfl rfl ?_ | refine oK c4 rfl rfl rfl ?_ | refine oK cL1 rfl rfl rfl ?_ | refine oK cL2 rfl rfl rfl ?_ | refine oK cC1 rfl rfl rfl ?_ | refine oK cC2 rfl rfl rfl ?_) | refine MvQ.stay ?_)
      all_goals (refine rqK rfl ?_; (repeat' first | exact rfl | (refine qS ?_; constructor)))
  have hmod := C47 (n := n) (b := (s.tk.length : Int)) ⟨hn, by omega, by omega⟩
  have hm0 := Int.emod_nonneg n (show (s.tk.length : Int) ≠ 0 by omega)
  have hm1 := Int.emod_lt_of_pos n (show (0 : Int) < s.tk.length by omega)
  generalize n % (s.tk.length : Int) = m at *
  have c20 := C20 (l := t.d) (n := m) (by omega)
  by_cases hmd : m ∈ t.d
  · rw [decide_eq_true hmd] at c20
    clear b1 b2 b3 b4 ecb
    generalize cmpF (bdF s t (bpr s t)) ((bestP s t).2, 1) = V at *
    generalize cmpF (bdF s t (bpr s t)) (bdF s t p) = U at *
    generalize bdF s t (bpr s t) = G at *
    generalize bdF s t p = F at *
    generalize bpr s t = R at *
    generalize cpE s t l = cf at *
    generalize bestP s t = B at *
    refine pi1 fn7 ?_
    (repeat' first | (refine Owe.same ?_; first | refine Owe.o ?_ | refine Owe.mk ?_ ?_) | (refine Fork.same ?_; (first | refine fkY ?_ | refine fkF ?_ | ((first | refine fkD ?_ ?_ | refine fkN ?_ ?_ | refine fkM ?_ ?_) <;> intro h))) | ((first | refine OpsL.same ?_ | refine OpsDL.same ?_); first | refine oK C8 rfl rfl rfl ?_ | refine oK f1 rfl rfl rfl ?_ | refine oK f2 rfl rfl rfl ?_ | refine oK c5 rfl rfl rfl ?_ | refine oK c6 rfl rfl rfl ?_ | refine oK c8 rfl rfl rfl ?_) | refine MvQ.stay ?_)
    rcases cbf' with cbf' | cbf'
    · (repeat' first | (refine Owe.same ?_; first | refine Owe.o ?_ | refine Owe.mk ?_ ?_) | (refine Fork.same ?_; (first | refine fkY ?_ | refine fkF ?_ | ((first | refine fkD ?_ ?_ | refine fkN ?_ ?_ | refine fkM ?_ ?_) <;> intro h))) | ((first | refine OpsL.same ?_ | refine OpsDL.same ?_); first | refine oK c1 rfl rfl rfl ?_ | refine oK c2 rfl rfl rfl ?_ | refine oK cb rfl rfl rfl ?_ | refine oK cl rfl rfl rfl ?_ | refine oK cbc rfl rfl rfl ?_ | refine oK ccl rfl rfl rfl ?_ | refine oK ccb rfl rfl rfl ?_ | refine oK c3 rfl rfl rfl ?_ | refine oK c4 rfl rfl rfl ?_ | refine oK cL1 rfl rfl rfl ?_ | refine oK cL2 rfl rfl rfl ?_ | refine oK cC1 rfl rfl rfl ?_ | refine oK cC2 rfl rfl rfl ?_ | refine oK cbf' rfl rfl rfl ?_ | refine oK hmod rfl rfl rfl ?_ | refine oK c20 rfl rfl rfl ?_) | refine MvQ.stay ?_)
      all_goals (refine rqK rfl ?_; (repeat' first | exact rfl | (refine qS ?_; constructor)))
    · (repeat' first | (refine Owe.same ?_; first | refine Owe.o ?_ | refine Owe.mk ?_ ?_) | (refine Fork.same ?_; (first | refine fkY ?_ | refine fkF ?_ | ((first | refine fkD ?_ ?_ | refine fkN ?_ ?_ | refine fkM ?_ ?_) <;> intro h))) | ((first | refine OpsL.same ?_ | refine OpsDL.same ?_); first | refine oK c1 rfl rfl rfl ?_ | refine oK c2 rfl rfl rfl ?_ | refine oK cb rfl rfl rfl ?_ | refine oK cl rfl rfl rfl ?_ | refine oK cbc rfl rfl rfl ?_ | refine oK ccl rfl rfl rfl ?_ | refine oK ccb rfl rfl rfl ?_ | refine oK c3 rfl rfl rfl ?_ | refine oK c4 rfl rfl rfl ?_ | refine oK cL1 rfl rfl rfl ?_ | refine oK cL2 rfl rfl rfl ?_ | refine oK cC1 rfl rfl rfl ?_ | refine oK cC2 rfl rfl rfl ?_ | refine oK hmod rfl rfl rfl ?_ | refine oK c20 rfl rfl rfl ?_) | refine MvQ.stay ?_)
      all_goals (refine rqK rfl ?_; (repeat' first | exact rfl | (refine qS ?_; constructor)))
  rw [decide_eq_false hmd] at c20
  have hD := DpF.of (m := m) hO hsi ⟨hm0, hm1⟩
  have hre : reE s t m = 0 := by
    have : isTk s m = true := by simp only [isTk, wi, decide_eq_true_eq]; omega
    rw [reE, h0, this]; rfl
  have era : raE s t m = 0 := by rw [raE, if_pos hre, rpX, decide_eq_false hmd, hr]; rfl
  have hde : deE s m = 0 := by
    have : isTk s m = true := by simp only [isTk, wi, decide_eq_true_eq]; omega
    rw [deE, hsi, this]; rfl
  have c23 := C23 (s := s) (t := t) (n := m) ⟨hs, by omega⟩
  rw [era, if_pos rfl, if_pos rfl] at c23
  have c24 := C24 (s := s) (n := m) hs
  rw [hde, if_pos rfl] at c24
  obtain ⟨d1, d2, _, _⟩ := best_is (pm := pmD s m) hO
  have hvm : (bestPp (pmD s m) s t).2 ≤ (bestP s t).2 := by
    rw [← d2]; exact b3 _ (acP_wk (fun _ _ => rfl) d1)
  have hPl : (bestPp (pmD s m) s t).1.length ≤ 6 := by have := acP_len hO d1; omega
  have cpc := C14 (l := (bestPp (pmD s m) s t).1) (by omega)
  have ccp := C32 (s := s) (t := t) (l := (bestPp (pmD s m) s t).1) ⟨hs, by omega, by omega⟩
  have ecp : cpE s t (bestPp (pmD s m) s t).1 = ((bestPp (pmD s m) s t).2, 0) := by rw [cpE, if_pos h0, if_pos (acP_pr.1 (acP_wk (fun _ _ => rfl) d1)), d2]
  rw [ecp] at ccp
  have cme := C20 (l := (bestPp (pmD s m) s t).1) (n := m) (by omega)
  rw [decide_eq_false hD.me] at cme
  have hDl : (depL s m s.tk.length).length ≤ 6 := by
    have : (depL s m s.tk.length).length ≤ s.tk.length := fltL_len _ _
    omega
  clear b1 b2 b3 b4 ecb ecp d1 d2
  generalize cmpF (bdF s t (bpr s t)) ((bestP s t).2, 1) = V at *
  generalize cmpF (bdF s t (bpr s t)) (bdF s t p) = U at *
  generalize bdF s t (bpr s t) = G at *
  generalize bdF s t p = F at *
  generalize bpr s t = R at *
  generalize cpE s t l = cf at *
  generalize bestP s t = B at *
  generalize bestPp (pmD s m) s t = W at *
  generalize hDe : depL s m s.tk.length = D at *
  refine pi1 fn7 ?_
  (repeat' first | (refine Owe.same ?_; first | refine Owe.o ?_ | refine Owe.mk ?_ ?_) | (refine Fork.same ?_; (first | refine fkY ?_ | refine fkF ?_ | ((first | refine fkD ?_ ?_ | refine fkN ?_ ?_ | refine fkM ?_ ?_) <;> intro h))) | ((first | refine OpsL.same ?_ | refine OpsDL.same ?_); first | refine oK C8 rfl rfl rfl ?_ | refine oK f1 rfl rfl rfl ?_ | refine oK f2 rfl rfl rfl ?_ | refine oK c5 rfl rfl rfl ?_ | refine oK c6 rfl rfl rfl ?_ | refine oK c8 rfl rfl rfl ?_) | refine MvQ.stay ?_)
  rcases cbf' with cbf' | cbf'
  · (repeat' first | (refine Owe.same ?_; first | refine Owe.o ?_ | refine Owe.mk ?_ ?_) | (refine Fork.same ?_; (first | refine fkY ?_ | refine fkF ?_ | ((first | refine fkD ?_ ?_ | refine fkN ?_ ?_ | refine fkM ?_ ?_) <;> intro h))) | ((first | refine OpsL.same ?_ | refine OpsDL.same ?_); first | refine oK c1 rfl rfl rfl ?_ | refine oK c2 rfl rfl rfl ?_ | refine oK cb rfl rfl rfl ?_ | refine oK cl rfl rfl rfl ?_ | refine oK cbc rfl rfl rfl ?_ | refine oK ccl rfl rfl rfl ?_ | refine oK ccb rfl rfl rfl ?_ | refine oK c3 rfl rfl rfl ?_ | refine oK c4 rfl rfl rfl ?_ | refine oK cL1 rfl rfl rfl ?_ | refine oK cL2 rfl rfl rfl ?_ | refine oK cC1 rfl rfl rfl ?_ | refine oK cC2 rfl rfl rfl ?_ | refine oK cbf' rfl rfl rfl ?_ | refine oK hmod rfl rfl rfl ?_ | refine oK c20 rfl rfl rfl ?_ | refine oK c23 rfl rfl rfl ?_ | refine oK c24 rfl rfl rfl ?_ | refine oK cpc rfl rfl rfl ?_ | refine oK ccp rfl rfl rfl ?_ | refine oK cme rfl rfl rfl ?_) | refine MvQ.stay ?_)
    all_goals ((repeat' first | (refine Owe.same ?_; first | refine Owe.o ?_ | refine Owe.mk ?_ ?_) | (refine Fork.same ?_; (first | refine fkD ?_ ?_ | refine fkN ?_ ?_ | refine fkM ?_ ?_) <;> intro h) | refine MvQ.stay ?_); rotate_left)
    all_goals
      refine Sat.lp0 (fun k : Nat => [(27, vi .i64 k), (23, .c (ints D)), (20, .c (ints W.1)), (19, vi .i64 m), (3, .c (.rp (siD s)))]) (fun k => k ≤ D.length) (fun k => D.length - k) 0 (Nat.zero_le _) (by ((first | refine qen ?_ | refine qvs ?_ | refine qeq ?_ | refine qst ?_ | refine qv ?_ | refine qc ?_ | refine qe ?_ | refine qcs ?_ | skip); (repeat' first | exact rfl | (refine qS ?_; constructor)))) ?_
      intro k hk
      by_cases hlt : k < D.length
      · have e1 := hD.lo k hlt
        have e1' : m < D.getD ((k : Int)).toNat 0 ∧ D.getD ((k : Int)).toNat 0 < s.tk.length := by rw [Int.toNat_natCast]; exact e1
        have g1 := C20 (l := W.1) (n := D.getD ((k : Int)).toNat 0) (by omega)
        rw [decide_eq_false (by rw [Int.toNat_natCast]; exact hD.no k hlt)] at g1
        have g2 := C24 (s := s) (n := D.getD ((k : Int)).toNat 0) hs
        have e2 := hD.e k hlt
        have e3 := hD.tr k hlt
        rw [← Int.toNat_natCast k] at e2 e3
        rw [e2, if_pos rfl] at g2
        have hEl : (depL s (D.getD ((k : Int)).toNat 0) s.tk.length).length ≤ 6 := by
          have : (depL s (D.getD ((k : Int)).toNat 0) s.tk.length).length ≤ s.tk.length := fltL_len _ _
          omega
        generalize depL s (D.getD ((k : Int)).toNat 0) s.tk.length = E at *
        (repeat' first | (refine Owe.same ?_; first | refine Owe.o ?_ | refine Owe.mk ?_ ?_) | (refine Fork.same ?_; (first | refine fkY ?_ | refine fkF ?_ | ((first | refine fkD ?_ ?_ | refine fkN ?_ ?_ | refine fkM ?_ ?_) <;> intro h))) | ((first | refine OpsL.same ?_ | refine OpsDL.same ?_); first | refine oK g1 rfl rfl rfl ?_ | refine oK g2 rfl rfl rfl ?_ | refine oK c1 rfl rfl rfl ?_) | refine MvQ.stay ?_)
        (repeat' first | (refine Owe.same ?_; first | refine Owe.o ?_ | refine Owe.mk ?_ ?_) | (refine Fork.same ?_; (first | refine fkD ?_ ?_ | refine fkN ?_ ?_ | refine fkM ?_ ?_) <;> intro h) | refine MvQ.stay ?_)
        refine Sat.lp0 (fun j : Nat => [(30, vi .i64 j), (28, .c (ints E)), (27, vi .i64 k), (23, .c (ints D)), (20, .c (ints W.1)), (19, vi .i64 m), (3, .c (.rp (siD s)))]) (fun j => j ≤ E.length) (fun j => E.length - j) 0 (Nat.zero_le _) (by ((first | refine qen ?_ | refine qvs ?_ | refine qeq ?_ | refine qst ?_ | refine qv ?_ | refine qc ?_ | refine qe ?_ | refine qcs ?_ | skip); (repeat' first | exact rfl | (refine qS ?_; constructor)))) ?_
        intro j hj
        by_cases hjt : j < E.length
        · have g3 := C20 (l := D) (n := E.getD ((j : Int)).toNat 0) (by omega)
          rw [decide_eq_true (e3 _ (by rw [Int.toNat_natCast]; exact getD_mem _ hjt))] at g3
          (repeat' first | (refine Owe.same ?_; first | refine Owe.o ?_ | refine Owe.mk ?_ ?_) | (refine Fork.same ?_; (first | refine fkY ?_ | refine fkF ?_ | ((first | refine fkD ?_ ?_ | refine fkN ?_ ?_ | refine fkM ?_ ?_) <;> intro h))) | ((first | refine OpsL.same ?_ | refine OpsDL.same ?_); first | refine oK g3 rfl rfl rfl ?_) | refine MvQ.stay ?_)
          exact again0 (j + 1) hjt (by omega) (by ((first | refine qen ?_ | refine qvs ?_ | refine qeq ?_ | refine qst ?_ | refine qv ?_ | refine qc ?_ | refine qe ?_ | refine qcs ?_ | skip); (repeat' first | exact rfl | (refine qS ?_; constructor))))
        · (repeat' first | (refine Owe.same ?_; first | refine Owe.o ?_ | refine Owe.mk ?_ ?_) | (refine Fork.same ?_; (first | refine fkY ?_ | refine fkF ?_ | ((first | refine fkD ?_ ?_ | refine fkN ?_ ?_ | refine fkM ?_ ?_) <;> intro h))) | ((first | refine OpsL.same ?_ | refine OpsDL.same ?_); first | refine oK c1 rfl rfl rfl ?_) | refine MvQ.stay ?_)
          exact again0 (k + 1) hlt (by omega) (by ((first | refine qen ?_ | refine qvs ?_ | refine qeq ?_ | refine qst ?_ | refine qv ?_ | refine qc ?_ | refine qe ?_ | refine qcs ?_ | skip); (repeat' first | exact rfl | (refine qS ?_; constructor))))
      · (repeat' first | (refine Owe.same ?_; first | refine Owe.o ?_ | refine Owe.mk ?_ ?_) | (refine Fork.same ?_; (first | refine fkY ?_ | refine fkF ?_ | ((first | refine fkD ?_ ?_ | refine fkN ?_ ?_ | refine fkM ?_ ?_) <;> intro h))) | ((first | refine OpsL.same ?_ | refine OpsDL.same ?_); first | refine oK c1 rfl rfl rfl ?_) | refine MvQ.stay ?_)
        all_goals (refine rqK rfl ?_; (repeat' first | exact rfl | (refine qS ?_; constructor)))
  · (repeat' first | (refine Owe.same ?_; first | refine Owe.o ?_ | refine Owe.mk ?_ ?_) | (refine Fork.same ?_; (first | refine fkY ?_ | refine fkF ?_ | ((first | refine fkD ?_ ?_ | refine fkN ?_ ?_ | refine fkM ?_ ?_) <;> intro h))) | ((first | refine OpsL.same ?_ | refine OpsDL.same ?_); first | refine oK c1 rfl rfl rfl ?_ | refine oK c2 rfl rfl rfl ?_ | refine oK cb rfl rfl rfl ?_ | refine oK cl rfl rfl rfl ?_ | refine oK cbc rfl rfl rfl ?_ | refine oK ccl rfl rfl rfl ?_ | refine oK ccb rfl rfl rfl ?_ | refine oK c3 rfl rfl rfl ?_ | refine oK c4 rfl rfl rfl ?_ | refine oK cL1 rfl rfl rfl ?_ | refine oK cL2 rfl rfl rfl ?_ | refine oK cC1 rfl rfl rfl ?_ | refine oK cC2 rfl rfl rfl ?_ | refine oK hmod rfl rfl rfl ?_ | refine oK c20 rfl rfl rfl ?_ | refine oK c23 rfl rfl rfl ?_ | refine oK c24 rfl rfl rfl ?_ | refine oK cpc rfl rfl rfl ?_ | refine oK ccp rfl rfl rfl ?_ | refine oK cme rfl rfl rfl ?_) | refine MvQ.stay ?_)
    all_goals ((repeat' first | (refine Owe.same ?_; first | refine Owe.o ?_ | refine Owe.mk ?_ ?_) | (refine Fork.same ?_; (first | refine fkD ?_ ?_ | refine fkN ?_ ?_ | refine fkM ?_ ?_) <;> intro h) | refine MvQ.stay ?_); rotate_left)
    all_goals
      refine Sat.lp0 (fun k : Nat => [(27, vi .i64 k), (23, .c (ints D)), (20, .c (ints W.1)), (19, vi .i64 m), (3, .c (.rp (siD s)))]) (fun k => k ≤ D.length) (fun k => D.length - k) 0 (Nat.zero_le _) (by ((first | refine qen ?_ | refine qvs ?_ | refine qeq ?_ | refine qst ?_ | refine qv ?_ | refine qc ?_ | refine qe ?_ | refine qcs ?_ | skip); (repeat' first | exact rfl | (refine qS ?_; constructor)))) ?_
      intro k hk
      by_cases hlt : k < D.length
      · have e1 := hD.lo k hlt
        have e1' : m < D.getD ((k : Int)).toNat 0 ∧ D.getD ((k : Int)).toNat 0 < s.tk.length := by rw [Int.toNat_natCast]; exact e1
        have g1 := C20 (l := W.1) (n := D.getD ((k : Int)).toNat 0) (by omega)
        rw [decide_eq_false (by rw [Int.toNat_natCast]; exact hD.no k hlt)] at g1
        have g2 := C24 (s := s) (n := D.getD ((k : Int)).toNat 0) hs
        have e2 := hD.e k hlt
        have e3 := hD.tr k hlt
        rw [← Int.toNat_natCast k] at e2 e3
        rw [e2, if_pos rfl] at g2
        have hEl : (depL s (D.getD ((k : Int)).toNat 0) s.tk.length).length ≤ 6 := by
          have : (depL s (D.getD ((k : Int)).toNat 0) s.tk.length).length ≤ s.tk.length := fltL_len _ _
          omega
        generalize depL s (D.getD ((k : Int)).toNat 0) s.tk.length = E at *
        (repeat' first | (refine Owe.same ?_; first | refine Owe.o ?_ | refine Owe.mk ?_ ?_) | (refine Fork.same ?_; (first | refine fkY ?_ | refine fkF ?_ | ((first | refine fkD ?_ ?_ | refine fkN ?_ ?_ | refine fkM ?_ ?_) <;> intro h))) | ((first | refine OpsL.same ?_ | refine OpsDL.same ?_); first | refine oK g1 rfl rfl rfl ?_ | refine oK g2 rfl rfl rfl ?_ | refine oK c1 rfl rfl rfl ?_) | refine MvQ.stay ?_)
        (repeat' first | (refine Owe.same ?_; first | refine Owe.o ?_ | refine Owe.mk ?_ ?_) | (refine Fork.same ?_; (first | refine fkD ?_ ?_ | refine fkN ?_ ?_ | refine fkM ?_ ?_) <;> intro h) | refine MvQ.stay ?_)
        refine Sat.lp0 (fun j : Nat => [(30, vi .i64 j), (28, .c (ints E)), (27, vi .i64 k), (23, .c (ints D)), (20, .c (ints W.1)), (19, vi .i64 m), (3, .c (.rp (siD s)))]) (fun j => j ≤ E.length) (fun j => E.length - j) 0 (Nat.zero_le _) (by ((first | refine qen ?_ | refine qvs ?_ | refine qeq ?_ | refine qst ?_ | refine qv ?_ | refine qc ?_ | refine qe ?_ | refine qcs ?_ | skip); (repeat' first | exact rfl | (refine qS ?_; constructor)))) ?_
        intro j hj
        by_cases hjt : j < E.length
        · have g3 := C20 (l := D) (n := E.getD ((j : Int)).toNat 0) (by omega)
          rw [decide_eq_true (e3 _ (by rw [Int.toNat_natCast]; exact getD_mem _ hjt))] at g3
          (repeat' first | (refine Owe.same ?_; first | refine Owe.o ?_ | refine Owe.mk ?_ ?_) | (refine Fork.same ?_; (first | refine fkY ?_ | refine fkF ?_ | ((first | refine fkD ?_ ?_ | refine fkN ?_ ?_ | refine fkM ?_ ?_) <;> intro h))) | ((first | refine OpsL.same ?_ | refine OpsDL.same ?_); first | refine oK g3 rfl rfl rfl ?_) | refine MvQ.stay ?_)
          exact again0 (j + 1) hjt (by omega) (by ((first | refine qen ?_ | refine qvs ?_ | refine qeq ?_ | refine qst ?_ | refine qv ?_ | refine qc ?_ | refine qe ?_ | refine qcs ?_ | skip); (repeat' first | exact rfl | (refine qS ?_; constructor))))
        · (repeat' first | (refine Owe.same ?_; first | refine Owe.o ?_ | refine Owe.mk ?_ ?_) | (refine Fork.same ?_; (first | refine fkY ?_ | refine fkF ?_ | ((first | refine fkD ?_ ?_ | refine fkN ?_ ?_ | refine fkM ?_ ?_) <;> intro h))) | ((first | refine OpsL.same ?_ | refine OpsDL.same ?_); first | refine oK c1 rfl rfl rfl ?_) | refine MvQ.stay ?_)
          exact again0 (k + 1) hlt (by omega) (by ((first | refine qen ?_ | refine qvs ?_ | refine qeq ?_ | refine qst ?_ | refine qv ?_ | refine qc ?_ | refine qe ?_ | refine qcs ?_ | skip); (repeat' first | exact rfl | (refine qS ?_; constructor))))
      · (repeat' first | (refine Owe.same ?_; first | refine Owe.o ?_ | refine Owe.mk ?_ ?_) | (refine Fork.same ?_; (first | refine fkY ?_ | refine fkF ?_ | ((first | refine fkD ?_ ?_ | refine fkN ?_ ?_ | refine fkM ?_ ?_) <;> intro h))) | ((first | refine OpsL.same ?_ | refine OpsDL.same ?_); first | refine oK c1 rfl rfl rfl ?_) | refine MvQ.stay ?_)
        all_goals (refine rqK rfl ?_; (repeat' first | exact rfl | (refine qS ?_; constructor)))
end Go.Pw

namespace Go.Proofs.YtnimcgmgnmlfgaaGreat
open Go.ChangeShapes Go.WideShapes Go.ChangeAt Go.RowKit Go.Pw
theorem Tryz.own : ownKnob Tryz.prog.godebug = none := by kernel_rfl
theorem Tryz.laidOut : laidOutB Tryz.prog = true := by kernel_rfl
theorem shapes : shAll Tryz.prog [27, 29, 85] = some [(true, siSh), (true, stSh), (true, ofSh)] := by kernel_rfl
theorem law (args : List V) (h : ArgOk [(true, siSh), (true, stSh), (true, ofSh)] args) : PFD Tryz.prog 7 args (vbl true) := by
  match args, h with
  | [v0, v1, v2], ⟨h0, h1, h2, _⟩ =>
    obtain ⟨s0, r0, q0⟩ := arg_site h0
    obtain ⟨t1, r1, q1⟩ := arg_state h1
    obtain ⟨l2, p2, n2, r2, q2⟩ := arg_offer h2
    exact PFD.ri (C7 ⟨w64_i q2.1, w64_i q2.2.1⟩ (w64_i q2.2.2)) (.cons r0 (.cons r1 (.cons r2 .nil)))
set_option maxRecDepth 100000 in
theorem lifted (os : Os) (started : os.Started) (H : Type) (enc : TypeId × Value → H) :
    ReturnsInHanded {} Tryz.checked os 7 .any (Rows.diveBoundedSpec.pre6 enc Tryz.prog Tryz.f7 Rows.diveBoundedRow.domain false) (Rows.diveBoundedSpec.post enc Tryz.prog Tryz.f7 false true false false) := by
  refine returnsInHanded_of_change (C := Tryz.checked) Tryz.own started (by kernel_rfl) Tryz.func7
    (ChangeSpec.witness6 (enc := enc) (C := Tryz.checked) false ⟨#[], #[.agg #[.slice none 0 0, .slice none 0 0, .slice none 0 0, .slice none 0 0, .int .i64 0, .int .i64 0, .int .i64 0, .int .i64 0], .agg #[.int .i64 0, .int .i64 0, .int .i64 0, .int .i64 0, .slice none 0 0], .agg #[.slice none 0 0, .int .i64 0, .int .i64 0, .int .i64 0]], []⟩ 8 (by kernel_rfl) (by kernel_rfl) (by kernel_rfl) (by kernel_rfl)) ?_
  intro W base args ds gs before hval0 hW hcnd _
  exact law_calls (P := Tryz.prog) (F := Tryz.f7) (tb := 4) Tryz.laidOut (by rw [Tryz.params7]; exact shapes) rfl (fun ds hl => by
    rw [Tryz.params7] at hl
    match ds, hl with
    | [d0, d1, d2], _ => rfl) (by kernel_rfl) Tryz.underlying4 law W base args ds gs before hval0 hW
theorem row_holds : Rows.DiveBoundedSaid :=
  OpenClaim.holds_of_wide 7 Tryz.f7 rfl rfl rfl rfl rfl rfl rfl ⟨rfl, rfl, rfl, rfl, rfl⟩ rfl rfl rfl rfl rfl (by kernel_rfl) Tryz.func7 (by kernel_rfl)
    (of_decide_eq_true (by kernel_rfl)) (by unfold Func.isWrapper; rw [if_neg (by decide +kernel)]; exact ⟨rfl, rfl⟩)
    (fun os started H enc _ => lifted os started H enc)
end Go.Proofs.YtnimcgmgnmlfgaaGreat
