/- Proved here at the end: the row named in the last theorem, on no condition. -/
import Derived.Test.YtailfkllanegeaaTopSurveyChangedC
import Derived.LoopNIn
import Derived.Test.YtailfkllanegeaaProg
import Derived.Test.YtailfkllanegeaaRows
set_option linter.unusedSimpArgs false
set_option linter.unusedVariables false
set_option maxHeartbeats 1000000
namespace Go.Pw
set_option maxRecDepth 2000
open Go Go.Proofs A1 A2 A3 A4
theorem C36 {A B : List Ft} {s : Int} : SvB A B s → PFD Try.prog 36 [suv A B s] (vi .i64 (csT s A B)) := fun hS => by
  have c35 := C35 hS
  have h0 := ptL_len (s := s) (A := A) (B := B) (n := A.length + 1)
  have h1 : (ptL s A B (A.length + 1)).getD ((A.length : Nat) : Int).toNat [] = ptR s A B A.length (B.length + 1) := by
    rw [show ((A.length : Nat) : Int).toNat = A.length from rfl, ptL_at (by omega)]
  have h2 : ((ptL s A B (A.length + 1)).getD ((A.length : Nat) : Int).toNat []).length = B.length + 1 := by rw [h1, ptR_len]
  have h3 : ((ptL s A B (A.length + 1)).getD ((A.length : Nat) : Int).toNat []).getD ((B.length : Nat) : Int).toNat 0 = csT s A B := by
    rw [h1, show ((B.length : Nat) : Int).toNat = B.length from rfl, ptR_at (by omega), csT]
  refine pi1 fn36 ?_
  (repeat' first | (refine Owe.same ?_; first | refine Owe.o ?_ | refine Owe.mk ?_ ?_) | (refine Fork.same ?_; (first | refine fkD ?_ ?_ | refine fkN ?_ ?_ | refine fkM ?_ ?_) <;> intro h) | ((first | refine OpsL.same ?_ | refine OpsDL.same ?_); first | refine pK c35 rfl rfl ?_) | refine MvQ.stay ?_)
  (refine rqK rfl ?_; (repeat' first | exact rfl | (refine qS ?_; constructor)))
  exact h3
theorem ceq_dropF {A : List Ft} {i : Nat} : CEq (.d (.sl 5 (A.length - i) fun j => ftD (A.getD (i + j) ft0))) (fts (A.drop i)) := by
  rw [show fts (A.drop i) = .d (.sl 5 (A.drop i).length fun j => ftD ((A.drop i).getD j ft0)) from rfl, List.length_drop]
  exact .d _ _ (.sl _ _ _ _ fun j hj => by rw [getD_drop])
theorem C78 {A B : List Ft} {s : Int} {i k : Nat} : (i ≤ A.length ∧ k ≤ B.length) → PFD Try.prog 78 [suv A B s, vi .i64 i, vi .i64 k] (suv (A.drop i) (B.drop k) s) := fun h => by
  refine pi1 fn78 ?_
  (repeat' first | (refine Owe.same ?_; first | refine Owe.o ?_ | refine Owe.mk ?_ ?_) | (refine Fork.same ?_; (first | refine fkD ?_ ?_ | refine fkN ?_ ?_ | refine fkM ?_ ?_) <;> intro h) | refine MvQ.stay ?_)
  (refine rqK rfl ?_; (repeat' first | exact rfl | (refine qS ?_; constructor)))
  · exact ceq_dropF
  · exact ceq_dropF
/-- The first pair, as it is handed back. -/
abbrev nxV (o : Option (Nat × Nat)) : V := .tup [vi .i64 (o.getD (0, 0)).1, vi .i64 (o.getD (0, 0)).2, vbl o.isSome]
theorem csT_le {A B : List Ft} {s : Int} (hS : SvB A B s) : 0 ≤ csT s A B ∧ csT s A B ≤ 1600000 := pT_le hS (Nat.le_refl _) (Nat.le_refl _)
theorem fsO_hit {α : Type} {f : Nat → Option α} {n j : Nat} {x : α} (h : j < n) (hx : f j = some x) : fsO f j (n - j) = some x := by
  rw [show n - j = n - (j + 1) + 1 by omega, fsO, hx]
theorem fsO_miss {α : Type} {f : Nat → Option α} {n j : Nat} (h : j < n) (hx : f j = none) : fsO f j (n - j) = fsO f (j + 1) (n - (j + 1)) := by
  rw [show n - j = n - (j + 1) + 1 by omega, fsO, hx]
theorem C77 {A B : List Ft} {s : Int} : SvB A B s → PFD Try.prog 77 [suv A B s] (nxV (nxP s A B)) := fun hS => by
  have c36 := C36 hS
  have n1 := csT_le hS
  have ha := hS.a
  have hb := hS.b
  have hs := hS.s
  have hm : 0 ≤ ((A.length : Int) + B.length) * s ∧ ((A.length : Int) + B.length) * s ≤ 16 * 100000 := ⟨Int.mul_nonneg (by omega) hs.1, Int.mul_le_mul (by omega) hs.2 hs.1 (by decide)⟩
  by_cases hc : csT s A B = ((A.length : Int) + B.length) * s
  · rw [nxP, if_pos (by rw [hc]; norm_cast)]
    refine pi3 fn77 ?_
    (repeat' first | (refine Owe.same ?_; first | refine Owe.o ?_ | refine Owe.mk ?_ ?_) | (refine Fork.same ?_; (first | refine fkD ?_ ?_ | refine fkN ?_ ?_ | refine fkM ?_ ?_) <;> (intro h; try (exfalso; omega))) | ((first | refine OpsL.same ?_ | refine OpsDL.same ?_); first | refine pK c36 rfl rfl ?_) | refine MvQ.stay ?_)
    (refine rqK rfl ?_; (repeat' first | exact rfl | (refine qS ?_; constructor)))
  have e0 : nxP s A B = fsO (nxR s A B) 0 (A.length - 0) := by
    rw [nxP, if_neg (fun h => hc (by rw [h]; norm_cast)), Nat.sub_zero]
  rw [e0]
  obtain ⟨R, hR⟩ : ∃ R, R = fsO (nxR s A B) 0 (A.length - 0) := ⟨_, rfl⟩
  rw [← hR]
  refine pi3 fn77 ?_
  (repeat' first | (refine Owe.same ?_; first | refine Owe.o ?_ | refine Owe.mk ?_ ?_) | (refine Fork.same ?_; (first | refine fkD ?_ ?_ | refine fkN ?_ ?_ | refine fkM ?_ ?_) <;> (intro h; try (exfalso; omega))) | ((first | refine OpsL.same ?_ | refine OpsDL.same ?_); first | refine pK c36 rfl rfl ?_) | refine MvQ.stay ?_)
  refine Sat.lp (fun i : Nat => ⟨[(27, vi .i64 i), (26, vi .i64 A.length), (1, .c (.rp (suD A B s))), (5, vi .i64 (csT s A B))], [], 1⟩) (fun i => i ≤ A.length ∧ R = fsO (nxR s A B) i (A.length - i)) (fun i => A.length - i) 0 [0] ⟨Nat.zero_le _, hR⟩ ?_ ?_
  · (refine qis ?_ ?_ <;> (repeat' first | exact rfl | (refine qS ?_; constructor)))
  rintro i ⟨hi, hRi⟩
  refine Fork.dec (fun hlt => ?_) (fun hlt => ?_)
  · have hlt : i < A.length := by omega
    (repeat' first | (refine Owe.same ?_; first | refine Owe.o ?_ | refine Owe.mk ?_ ?_) | (refine Fork.same ?_; (first | refine fkD ?_ ?_ | refine fkN ?_ ?_ | refine fkM ?_ ?_) <;> intro h) | refine MvQ.stay ?_)
    refine Sat.lp (fun k : Nat => ⟨[(33, vi .i64 k), (32, vi .i64 B.length), (6, vi .i64 i), (27, vi .i64 i), (26, vi .i64 A.length), (1, .c (.rp (suD A B s))), (5, vi .i64 (csT s A B))], [], 1⟩)
      (fun k => k ≤ B.length ∧ nxR s A B i = fsO (fun k => if hitP s A B i k = true then some (i, k) else none) k (B.length - k)) (fun k => B.length - k) 0 [0] ⟨Nat.zero_le _, rfl⟩ ?_ ?_
    · (refine qis ?_ ?_ <;> (repeat' first | exact rfl | (refine qS ?_; constructor)))
    rintro k ⟨hk, hRk⟩
    refine Fork.dec (fun hlk => ?_) (fun hlk => ?_)
    · have hlk : k < B.length := by omega
      have c42 := C42 ⟨hS, hlt, hlk⟩
      have c78 := C78 (A := A) (B := B) (s := s) (i := i + 1) (k := k + 1) ⟨by omega, by omega⟩
      have hS' := hS.drop (i + 1) (k + 1)
      have c36' := C36 hS'
      have n2 := csT_le hS'
      have n3 := dst_le hS hlt hlk
      have n4 := dst_nn (a := A.getD i ft0) (b := B.getD k ft0)
      have hm2 : 0 ≤ ((i : Int) + k) * s ∧ ((i : Int) + k) * s ≤ 16 * 100000 := ⟨Int.mul_nonneg (by omega) hs.1, Int.mul_le_mul (by omega) hs.2 hs.1 (by decide)⟩
      have ht : hitP s A B i k = (decide ((A.getD i ft0).2.1 = (B.getD k ft0).2.1) && decide (((i : Int) + k) * s + dst (A.getD i ft0) (B.getD k ft0) + csT s (A.drop (i + 1)) (B.drop (k + 1)) = csT s A B)) := by
        rw [hitP, show ((i + k : Nat) : Int) = (i : Int) + k by omega]
      (repeat' first | (refine Owe.same ?_; first | refine Owe.o ?_ | refine Owe.mk ?_ ?_) | (refine Fork.same ?_; (first | refine fkD ?_ ?_ | refine fkN ?_ ?_ | refine fkM ?_ ?_) <;> (intro h; try (exfalso; omega))) | ((first | refine OpsL.same ?_ | refine OpsDL.same ?_); first | refine pK c42 rfl rfl ?_ | refine pK c78 rfl rfl ?_) | refine MvQ.stay ?_)
      · (repeat' first | (refine Owe.same ?_; first | refine Owe.o ?_ | refine Owe.mk ?_ ?_) | (refine Fork.same ?_; (first | refine fkD ?_ ?_ | refine fkN ?_ ?_ | refine fkM ?_ ?_) <;> (intro h; try (exfalso; omega))) | ((first | refine OpsL.same ?_ | refine OpsDL.same ?_); first | refine pK c36' rfl rfl ?_) | refine MvQ.stay ?_)
        · have eR : R = some (i, k) := by
            rw [hRi]
            refine fsO_hit hlt ?_
            rw [hRk]
            refine fsO_hit hlk ?_
            rw [if_pos]
            rw [ht, decide_eq_true h, decide_eq_true (by assumption)]; rfl
          rw [eR]
          (refine rqK rfl ?_; (repeat' first | exact rfl | (refine qS ?_; constructor)))
        · refine again (k + 1) [0] ⟨hlk, ?_⟩ (by omega) ?_
          · rw [hRk, fsO_miss hlk (by rw [if_neg (by rw [ht, decide_eq_false h, Bool.and_false]; decide)])]
          · (refine qis ?_ ?_ <;> (repeat' first | exact rfl | (refine qS ?_; constructor)))
      · refine again (k + 1) [0] ⟨hlk, ?_⟩ (by omega) ?_
        · rw [hRk, fsO_miss hlk (by rw [if_neg (by rw [ht, decide_eq_false h, Bool.false_and]; decide)])]
        · (refine qis ?_ ?_ <;> (repeat' first | exact rfl | (refine qS ?_; constructor)))
    · have : k = B.length := by omega
      subst this
      (repeat' first | (refine Owe.same ?_; first | refine Owe.o ?_ | refine Owe.mk ?_ ?_) | (refine Fork.same ?_; (first | refine fkD ?_ ?_ | refine fkN ?_ ?_ | refine fkM ?_ ?_) <;> (intro h; try (exfalso; omega))) | refine MvQ.stay ?_)
      refine again (i + 1) [0] ⟨hlt, ?_⟩ (by omega) ?_
      · rw [hRi, fsO_miss hlt (by rw [hRk, Nat.sub_self]; rfl)]
      · (refine qis ?_ ?_ <;> (repeat' first | exact rfl | (refine qS ?_; constructor)))
  · have : i = A.length := by omega
    subst this
    rw [Nat.sub_self] at hRi
    rw [hRi]
    (repeat' first | (refine Owe.same ?_; first | refine Owe.o ?_ | refine Owe.mk ?_ ?_) | (refine Fork.same ?_; (first | refine fkD ?_ ?_ | refine fkN ?_ ?_ | refine fkM ?_ ?_) <;> intro h) | refine MvQ.stay ?_)
    (refine rqK rfl ?_; (repeat' first | exact rfl | (refine qS ?_; constructor)))
/-- Pairs of indexes as numbers. -/
def pI (l : List (Nat × Nat)) : List (Int × Int) := l.map fun p => ((p.1 : Int), (p.2 : Int))
theorem pI_app {l m : List (Nat × Nat)} : pI (l ++ m) = pI l ++ pI m := List.map_append
theorem pI_len {l : List (Nat × Nat)} : (pI l).length = l.length := List.length_map _
theorem mtP_len {s : Int} : ∀ (n : Nat) (A B : List Ft), (mtP s n A B).length ≤ n
  | 0, A, B => Nat.le_refl _
  | n + 1, A, B => by
    rw [mtP]
    split
    · exact Nat.zero_le _
    · rw [List.length_cons, List.length_map]; have := mtP_len (s := s) n; exact Nat.succ_le_succ (this _ _)
def shP (x y : Nat) (l : List (Nat × Nat)) : List (Nat × Nat) := l.map fun p => (x + p.1, y + p.2)
theorem shP_0 {l : List (Nat × Nat)} : shP 0 0 l = l := by
  rw [shP]; conv => rhs; rw [← List.map_id l]
  congr 1; funext p; simp
theorem C34 {A B : List Ft} {s : Int} : SvB A B s → PFD Try.prog 34 [suv A B s] (.c (prs (pI (mtP s A.length A B)))) := fun hS => by
  have ha := hS.a
  have hb := hS.b
  obtain ⟨M, hM⟩ : ∃ M, M = mtP s A.length A B := ⟨_, rfl⟩
  rw [← hM]
  refine pi1 fn34 ?_
  (repeat' first | (refine Owe.same ?_; first | refine Owe.o ?_ | refine Owe.mk ?_ ?_) | (refine Fork.same ?_; (first | refine fkD ?_ ?_ | refine fkN ?_ ?_ | refine fkM ?_ ?_) <;> intro h) | refine MvQ.stay ?_)
  refine Sat.nilS 3 99 2 (fun i => r2 (([] : List (Int × Int)).getD i (0, 0))) rfl ?_
  refine Sat.lp (fun st : List (Nat × Nat) × Nat × Nat × Nat => ⟨[(1, .c (.bp 0 0)), (3, .c (.ms 1 (pI st.1).length)), (4, .c (.bp 2 0))], [(0, .box [fts (A.drop st.2.1), fts (B.drop st.2.2.1), int s]), (1, rowv 99 2 r2 (0, 0) (pI st.1)), (2, .box [int st.2.1, int st.2.2.1])], 3⟩)
    (fun st => ((st.2.1 ≤ A.length ∧ st.2.2.1 ≤ B.length) ∧ A.length - st.2.1 ≤ st.2.2.2) ∧ st.1.length ≤ st.2.1 ∧ M = st.1 ++ shP st.2.1 st.2.2.1 (mtP s st.2.2.2 (A.drop st.2.1) (B.drop st.2.2.1))) (fun st => st.2.2.2 + 1) ([], 0, 0, A.length) [0, 2, 1] ⟨⟨⟨Nat.zero_le _, Nat.zero_le _⟩, Nat.sub_le _ _⟩, Nat.zero_le _, by rw [shP_0]; exact hM⟩ ?_ ?_
  · (refine qis ?_ ?_ <;> (repeat' first | exact rfl | (refine qS ?_; constructor)))
  rintro ⟨out, x, y, m⟩ ⟨⟨⟨hx, hy⟩, hm⟩, ho, hMe⟩
  simp only at hx hy hm ho hMe ⊢
  have hl : (pI out).length ≤ 8 := by rw [pI_len]; omega
  have c77 := C77 (hS.drop x y)
  cases hn : nxP s (A.drop x) (B.drop y) with
  | none =>
    rw [hn] at c77
    have c77 : PFD Try.prog 77 [suv (A.drop x) (B.drop y) s] (.tup [vi .i64 0, vi .i64 0, vbl false]) := c77
    have hMo : M = out := by
      rw [hMe]
      cases m with
      | zero => rw [mtP]; simp [shP]
      | succ m => rw [mtP, hn]; simp [shP]
    rw [hMo]
    (repeat' first | (refine Owe.same ?_; first | refine Owe.o ?_ | refine Owe.mk ?_ ?_) | (refine Fork.same ?_; (first | refine fkY ?_ | refine fkF ?_ | ((first | refine fkD ?_ ?_ | refine fkN ?_ ?_ | refine fkM ?_ ?_) <;> intro h))) | ((first | refine OpsL.same ?_ | refine OpsDL.same ?_); first | refine oK c77 rfl rfl rfl ?_) | refine MvQ.stay ?_)
    refine rqF 0 _ rfl rfl rfl ?_; (repeat' first | exact rfl | (refine qS ?_; constructor))
  | some p =>
    obtain ⟨i, k⟩ := p
    obtain ⟨h1, h2, _, _⟩ := nxP_some hn
    rw [hn] at c77
    have c77 : PFD Try.prog 77 [suv (A.drop x) (B.drop y) s] (.tup [vi .i64 i, vi .i64 k, vbl true]) := c77
    rw [List.length_drop] at h1 h2
    have c78 : PFD Try.prog 78 [suv (A.drop x) (B.drop y) s, vi .i64 ((i : Int) + 1), vi .i64 ((k : Int) + 1)] (suv (A.drop (x + (i + 1))) (B.drop (y + (k + 1))) s) := by
      have h := C78 (A := A.drop x) (B := B.drop y) (s := s) (i := i + 1) (k := k + 1) ⟨by rw [List.length_drop]; omega, by rw [List.length_drop]; omega⟩
      rw [List.drop_drop, List.drop_drop] at h
      exact h
    obtain ⟨m, rfl⟩ : ∃ m', m = m' + 1 := ⟨m - 1, by omega⟩
    rw [mtP, hn] at hMe
    simp only at hMe
    (repeat' first | (refine Owe.same ?_; first | refine Owe.o ?_ | refine Owe.mk ?_ ?_) | (refine Fork.same ?_; (first | refine fkY ?_ | refine fkF ?_ | ((first | refine fkD ?_ ?_ | refine fkN ?_ ?_ | refine fkM ?_ ?_) <;> intro h))) | ((first | refine OpsL.same ?_ | refine OpsDL.same ?_); first | refine oK c77 rfl rfl rfl ?_ | refine oK c78 rfl rfl rfl ?_) | refine MvQ.stay ?_)
    refine again (out ++ [(x + i, y + k)], x + (i + 1), y + (k + 1), m) [0, 3, 2] ⟨⟨⟨by simp only; omega, by simp only; omega⟩, by simp only; omega⟩, by simp; omega, ?_⟩ (Nat.lt_succ_self _) ?_
    · simp only
      rw [hMe, List.append_assoc, List.drop_drop, List.drop_drop]
      congr 1
      rw [shP, List.map_cons, List.map_map, List.singleton_append, shP]
      congr 1
      refine List.map_congr_left fun p hp => ?_
      simp only [Function.comp, Nat.add_assoc]
    · (refine qis ?_ ?_ <;> (repeat' first | exact rfl | (refine qS ?_; constructor)))
      · simp [pI]
      · show pI (out ++ [(x + i, y + k)]) = _
        rw [pI_app]; rfl
end Go.Pw

set_option linter.unusedSimpArgs false
set_option linter.unusedVariables false
set_option maxHeartbeats 1000000
namespace Go.Pw
set_option maxRecDepth 2000
open Go Go.Proofs A1 A2 A3 A4
theorem C121 {p : Int × Int} {lo hi : Int} : PFD Try.prog 121 [.agg [int p.1, int p.2], vi .i64 lo, vi .i64 hi] (vbl (decide ((lo ≤ p.1 ∧ p.1 ≤ hi) ∧ lo ≤ p.2 ∧ p.2 ≤ hi))) := by
  refine pi1 fn121 ?_
  (repeat' first | (refine Owe.same ?_; first | refine Owe.o ?_ | refine Owe.mk ?_ ?_) | (refine Fork.same ?_; (first | refine fkD ?_ ?_ | refine fkN ?_ ?_ | refine fkM ?_ ?_) <;> intro h) | ((first | refine OpsL.same ?_ | refine OpsDL.same ?_); first | refine pK C76 rfl rfl ?_) | refine MvQ.stay ?_)
  · (refine rqK rfl ?_; (repeat' first | exact rfl | (refine qS ?_; constructor))); exact decide_eq_decide.2 ⟨fun hh => ⟨h, hh⟩, fun hh => hh.2⟩
  · (refine rqK rfl ?_; (repeat' first | exact rfl | (refine qS ?_; constructor))); rw [decide_eq_false]; exact fun hh => h hh.1
theorem C122 {p : Int × Int} : PFD Try.prog 122 [.agg [int p.1, int p.2]] (vbl (decide (p.1 ≤ p.2))) := by
  refine pi1 fn122 ?_
  (repeat' first | (refine Owe.same ?_; first | refine Owe.o ?_ | refine Owe.mk ?_ ?_) | (refine Fork.same ?_; (first | refine fkD ?_ ?_ | refine fkN ?_ ?_ | refine fkM ?_ ?_) <;> intro h) | refine MvQ.stay ?_)
  (refine rqK rfl ?_; (repeat' first | exact rfl | (refine qS ?_; constructor)))
structure FtOk (f : Ft) : Prop where
  at_ : ((0 ≤ f.1.1 ∧ f.1.1 ≤ 100000) ∧ 0 ≤ f.1.2 ∧ f.1.2 ≤ 100000) ∧ f.1.1 ≤ f.1.2
  sz : ((0 ≤ f.2.2.1 ∧ f.2.2.1 ≤ 10000) ∧ 0 ≤ f.2.2.2 ∧ f.2.2.2 ≤ 10000) ∧ f.2.2.1 ≤ f.2.2.2
  kd : 0 ≤ f.2.1 ∧ f.2.1 ≤ 2
structure FtsOk (l : List Ft) : Prop where
  n : l.length ≤ 8
  ok : ∀ i, i < l.length → FtOk (l.getD i ft0)
  asc : ∀ i, i + 1 < l.length → (l.getD i ft0).1.1 ≤ (l.getD (i + 1) ft0).1.1
def lastA (l : List Ft) : Nat → Int
  | 0 => 0
  | k + 1 => (l.getD k ft0).1.1
theorem lastA_le {l : List Ft} (h : FtsOk l) {k : Nat} (hk : k < l.length) : lastA l k ≤ (l.getD k ft0).1.1 := by
  cases k with
  | zero => exact (h.ok 0 hk).at_.1.1.1
  | succ k => exact h.asc k hk
theorem C102 {l : List Ft} : FtsOk l → PFD Try.prog 102 [.c (fts l)] (.tup [vi .i64 0, vi .i64 0]) := fun hF => by
  have hn := hF.n
  refine pi2 fn102 ?_
  (repeat' first | (refine Owe.same ?_; first | refine Owe.o ?_ | refine Owe.mk ?_ ?_) | (refine Fork.same ?_; (first | refine fkD ?_ ?_ | refine fkN ?_ ?_ | refine fkM ?_ ?_) <;> (intro h; try (exfalso; omega))) | refine MvQ.stay ?_)
  refine Ops.cs rfl rfl (CallS.of fn119 rfl ?_)
  (repeat' first | (refine Owe.same ?_; first | refine Owe.o ?_ | refine Owe.mk ?_ ?_) | (refine Fork.same ?_; (first | refine fkD ?_ ?_ | refine fkN ?_ ?_ | refine fkM ?_ ?_) <;> (intro h; try (exfalso; omega))) | refine MvQ.stay ?_)
  refine Sat.lp (fun k : Nat => ⟨[(11, vi .i64 k), (10, vi .i64 l.length), (9, .c (fts l)), (1, .c (.fn 120 [0]))], [(0, .box [int (lastA l k)])], 1⟩)
    (fun k => k ≤ l.length) (fun k => l.length - k) 0 [] (Nat.zero_le _) ?_ ?_
  · (refine qis ?_ ?_ <;> (repeat' first | exact rfl | (refine qS ?_; constructor)))
  intro k hk
  refine Fork.dec (fun hlt => ?_) (fun hlt => ?_)
  · have hlt : k < l.length := by omega
    obtain ⟨⟨ha1, ha2⟩, ⟨hs1, hs2⟩, hk1⟩ := hF.ok k hlt
    have hla := lastA_le hF hlt
    (repeat' first | (refine Owe.same ?_; first | refine Owe.o ?_ | refine Owe.mk ?_ ?_) | (refine Fork.same ?_; (first | refine fkD ?_ ?_ | refine fkN ?_ ?_ | refine fkM ?_ ?_) <;> (intro h; try (exfalso; omega))) | refine MvQ.stay ?_)
    refine Ops.cs rfl rfl (CallS.of fn120 rfl ?_)
    have c1 := C121 (p := (l.getD k ft0).1) (lo := 0) (hi := 100000)
    have c2 := C121 (p := (l.getD k ft0).2.2) (lo := 0) (hi := 10000)
    have c3 := C122 (p := (l.getD k ft0).1)
    have c4 := C122 (p := (l.getD k ft0).2.2)
    have c5 := C76 (n := (l.getD k ft0).2.1) (lo := 0) (hi := 2)
    rw [decide_eq_true ha1] at c1
    rw [decide_eq_true hs1] at c2
    rw [decide_eq_true ha2] at c3
    rw [decide_eq_true hs2] at c4
    rw [decide_eq_true hk1] at c5
    have c6 : ∀ e, PFD Try.prog 41 [vbl true, vi .i64 e] (vi .i64 0) := fun e => C41
    have c7 : PFD Try.prog 41 [vbl (decide (lastA l k ≤ (l.getD k ft0).1.1)), vi .i64 9] (vi .i64 0) := by rw [decide_eq_true hla]; exact C41
    have c8 : PFD Try.prog 39 [.c (ints [0, 0, 0, 0])] (vi .i64 0) := C39 (l := [0, 0, 0, 0]) (by decide)
    (repeat' first | (refine Owe.same ?_; first | refine Owe.o ?_ | refine Owe.mk ?_ ?_) | (refine Fork.same ?_; (first | refine fkY ?_ | refine fkF ?_ | ((first | refine fkD ?_ ?_ | refine fkN ?_ ?_ | refine fkM ?_ ?_) <;> intro h))) | ((first | refine OpsL.same ?_ | refine OpsDL.same ?_); first | refine oK c1 rfl rfl rfl ?_ | refine oK c2 rfl rfl rfl ?_ | refine oK c3 rfl rfl rfl ?_ | refine oK c4 rfl rfl rfl ?_ | refine oK c5 rfl rfl rfl ?_ | refine oK c7 rfl rfl rfl ?_ | refine oK (c6 _) rfl rfl rfl ?_) | refine MvQ.stay ?_)
    ((first | refine OpsL.same ?_ | refine OpsDL.same ?_); first | refine pK c8 rfl rfl ?_)
    (repeat' first | (refine Owe.same ?_; first | refine Owe.o ?_ | refine Owe.mk ?_ ?_) | (refine Fork.same ?_; (first | refine fkY ?_ | refine fkF ?_ | ((first | refine fkD ?_ ?_ | refine fkN ?_ ?_ | refine fkM ?_ ?_) <;> intro h))) | ((first | refine OpsL.same ?_ | refine OpsDL.same ?_); first | refine oK c8 rfl rfl rfl ?_) | refine MvQ.stay ?_)
    refine again (k + 1) [] hlt (by omega) ?_
    (refine qis ?_ ?_ <;> (repeat' first | exact rfl | (refine qS ?_; constructor)))
  · have : k = l.length := by omega
    subst this
    (repeat' first | (refine Owe.same ?_; first | refine Owe.o ?_ | refine Owe.mk ?_ ?_) | (refine Fork.same ?_; (first | refine fkD ?_ ?_ | refine fkN ?_ ?_ | refine fkM ?_ ?_) <;> (intro h; try (exfalso; omega))) | refine MvQ.stay ?_)
    (refine rqK rfl ?_; (repeat' first | exact rfl | (refine qS ?_; constructor)))
theorem C75 {l : List Ft} : FtsOk l → PFD Try.prog 75 [.c (fts l)] (vi .i64 0) := fun hF => by
  have c := C102 hF
  refine pi1 fn75 ?_
  (repeat' first | (refine Owe.same ?_; first | refine Owe.o ?_ | refine Owe.mk ?_ ?_) | (refine Fork.same ?_; (first | refine fkY ?_ | refine fkF ?_ | ((first | refine fkD ?_ ?_ | refine fkN ?_ ?_ | refine fkM ?_ ?_) <;> intro h))) | ((first | refine OpsL.same ?_ | refine OpsDL.same ?_); first | refine oK c rfl rfl rfl ?_) | refine MvQ.stay ?_)
  (refine rqK rfl ?_; (repeat' first | exact rfl | (refine qS ?_; constructor)))
theorem C33 {A B : List Ft} {s : Int} : (FtsOk A ∧ FtsOk B ∧ 0 ≤ s ∧ s ≤ 100000) → PFD Try.prog 33 [.c (fts A), .c (fts B), vi .i64 s] (.tup [suv A B s, vi .i64 0]) := fun ⟨hA, hB, hs⟩ => by
  have cA := C75 hA
  have cB := C75 hB
  have c5 := C76 (n := s) (lo := 0) (hi := 100000)
  rw [decide_eq_true hs] at c5
  have c6 : PFD Try.prog 41 [vbl true, vi .i64 2] (vi .i64 0) := C41
  have c8 : PFD Try.prog 39 [.c (ints [0, 0, 0])] (vi .i64 0) := C39 (l := [0, 0, 0]) (by decide)
  refine pi2 fn33 ?_
  (repeat' first | (refine Owe.same ?_; first | refine Owe.o ?_ | refine Owe.mk ?_ ?_) | (refine Fork.same ?_; (first | refine fkY ?_ | refine fkF ?_ | ((first | refine fkD ?_ ?_ | refine fkN ?_ ?_ | refine fkM ?_ ?_) <;> intro h))) | ((first | refine OpsL.same ?_ | refine OpsDL.same ?_); first | refine oK cA rfl rfl rfl ?_ | refine oK cB rfl rfl rfl ?_ | refine oK c5 rfl rfl rfl ?_ | refine oK c6 rfl rfl rfl ?_) | refine MvQ.stay ?_)
  ((first | refine OpsL.same ?_ | refine OpsDL.same ?_); first | refine pK c8 rfl rfl ?_)
  (repeat' first | (refine Owe.same ?_; first | refine Owe.o ?_ | refine Owe.mk ?_ ?_) | (refine Fork.same ?_; (first | refine fkY ?_ | refine fkF ?_ | ((first | refine fkD ?_ ?_ | refine fkN ?_ ?_ | refine fkM ?_ ?_) <;> intro h))) | ((first | refine OpsL.same ?_ | refine OpsDL.same ?_); first | refine oK c8 rfl rfl rfl ?_) | refine MvQ.stay ?_)
  (refine rqK rfl ?_; (repeat' first | exact rfl | (refine qS ?_; constructor)))
theorem FtsOk.sv {A B : List Ft} {s : Int} (hA : FtsOk A) (hB : FtsOk B) (hs : 0 ≤ s ∧ s ≤ 100000) : SvB A B s := by
  have key : ∀ {l : List Ft}, FtsOk l → ∀ f ∈ l, (0 ≤ f.1.1 ∧ f.1.1 ≤ 100000) ∧ 0 ≤ f.1.2 ∧ f.1.2 ≤ 100000 := fun {l} h f hf => by
    obtain ⟨i, hi, rfl⟩ := List.getElem_of_mem hf
    have := (h.ok i hi).at_.1
    rw [List.getD_eq_getElem?_getD, List.getElem?_eq_getElem hi] at this
    exact this
  exact ⟨hA.n, hB.n, hs, key hA, key hB⟩
/-- The best match of two surveys. -/
abbrev mtL (s : Int) (A B : List Ft) : List (Nat × Nat) := mtP s A.length A B
abbrev mtv (s : Int) (A B : List Ft) : V := .agg [prs (pI (mtL s A B)), ils (ptL s A B (A.length + 1))]
theorem C8 {A B : List Ft} {s : Int} : (FtsOk A ∧ FtsOk B ∧ 0 ≤ s ∧ s ≤ 100000) → PFD Try.prog 8 [.c (fts A), .c (fts B), vi .i64 s] (.tup [mtv s A B, vi .i64 (csT s A B), vi .i64 0]) := fun h => by
  have hS := h.1.sv h.2.1 h.2.2
  have c1 := C33 h
  have c2 := C34 hS
  have c3 := C35 hS
  have c4 := C36 hS
  refine pi3 fn8 ?_
  (repeat' first | (refine Owe.same ?_; first | refine Owe.o ?_ | refine Owe.mk ?_ ?_) | (refine Fork.same ?_; (first | refine fkY ?_ | refine fkF ?_ | ((first | refine fkD ?_ ?_ | refine fkN ?_ ?_ | refine fkM ?_ ?_) <;> intro h))) | ((first | refine OpsL.same ?_ | refine OpsDL.same ?_); first | refine oK c1 rfl rfl rfl ?_ | refine oK c2 rfl rfl rfl ?_ | refine oK c3 rfl rfl rfl ?_ | refine oK c4 rfl rfl rfl ?_) | refine MvQ.stay ?_)
  (refine rqK rfl ?_; (repeat' first | exact rfl | (refine qS ?_; constructor)))
theorem C9 {l : List Ft} : l.length ≤ 1000000 → PFD Try.prog 9 [.c (fts l)] (.c (fts l)) := fun h => by
  refine pi1 fn9 ?_
  (repeat' first | (refine Owe.same ?_; first | refine Owe.o ?_ | refine Owe.mk ?_ ?_) | (refine Fork.same ?_; (first | refine fkD ?_ ?_ | refine fkN ?_ ?_ | refine fkM ?_ ?_) <;> intro h) | refine MvQ.stay ?_)
  (refine rqK rfl ?_; (repeat' first | exact rfl | (refine qS ?_; constructor)))
theorem C44 {l : List (Int × Int)} : l.length ≤ 1000000 → PFD Try.prog 44 [.c (prs l)] (.c (prs l)) := fun h => by
  refine pi1 fn44 ?_
  (repeat' first | (refine Owe.same ?_; first | refine Owe.o ?_ | refine Owe.mk ?_ ?_) | (refine Fork.same ?_; (first | refine fkD ?_ ?_ | refine fkN ?_ ?_ | refine fkM ?_ ?_) <;> intro h) | refine MvQ.stay ?_)
  (refine rqK rfl ?_; (repeat' first | exact rfl | (refine qS ?_; constructor)))
theorem C82 {l : List Int} : l.length ≤ 1000000 → PFD Try.prog 82 [.c (ints l)] (.c (ints l)) := fun h => by
  refine pi1 fn82 ?_
  (repeat' first | (refine Owe.same ?_; first | refine Owe.o ?_ | refine Owe.mk ?_ ?_) | (refine Fork.same ?_; (first | refine fkD ?_ ?_ | refine fkN ?_ ?_ | refine fkM ?_ ?_) <;> intro h) | refine MvQ.stay ?_)
  (refine rqK rfl ?_; (repeat' first | exact rfl | (refine qS ?_; constructor)))
theorem take_succD {α : Type} (d : α) {l : List α} {k : Nat} (h : k < l.length) : l.take (k + 1) = l.take k ++ [l.getD k d] := by
  rw [List.take_add_one, List.getElem?_eq_getElem h, List.getD_eq_getElem?_getD, List.getElem?_eq_getElem h]; rfl
theorem C45 {L : List (List Int)} : (L.length ≤ 1000000 ∧ ∀ l ∈ L, l.length ≤ 1000000) → PFD Try.prog 45 [.c (ils L)] (.c (ils L)) := fun ⟨hL, hl⟩ => by
  refine pi1 fn45 ?_
  (repeat' first | (refine Owe.same ?_; first | refine Owe.o ?_ | refine Owe.mk ?_ ?_) | (refine Fork.same ?_; (first | refine fkD ?_ ?_ | refine fkN ?_ ?_ | refine fkM ?_ ?_) <;> intro h) | refine MvQ.stay ?_)
  refine Sat.nilS 3 26 1 (fun i => iD (([] : List (List Int)).getD i [])) rfl ?_
  refine Sat.lp (fun k : Nat => ⟨[(4, vi .i64 k), (0, .c (ils L)), (3, .c (.ms 0 (L.take k).length))], [(0, rowv 26 1 iD [] (L.take k))], 1⟩)
    (fun k => k ≤ L.length) (fun k => L.length - k) 0 [0] (Nat.zero_le _) ?_ ?_
  · (refine qis ?_ ?_ <;> (repeat' first | exact rfl | (refine qS ?_; constructor)))
  intro k hk
  have ht : (L.take k).length = k := by rw [List.length_take]; omega
  refine Fork.dec (fun hlt => ?_) (fun hlt => ?_)
  · have hlt : k < L.length := by omega
    have c82 := C82 (l := L.getD k []) (hl _ (getD_mem [] hlt))
    (repeat' first | (refine Owe.same ?_; first | refine Owe.o ?_ | refine Owe.mk ?_ ?_) | (refine Fork.same ?_; (first | refine fkY ?_ | refine fkF ?_ | ((first | refine fkD ?_ ?_ | refine fkN ?_ ?_ | refine fkM ?_ ?_) <;> intro h))) | ((first | refine OpsL.same ?_ | refine OpsDL.same ?_); first | refine oK c82 rfl rfl rfl ?_) | refine MvQ.stay ?_)
    refine again (k + 1) [1] hlt (by omega) ?_
    rw [take_succD [] hlt]
    (refine qis ?_ ?_ <;> (repeat' first | exact rfl | (refine qS ?_; constructor)))
    · simp
    · exact ⟨_, rfl, rfl⟩
  · have : k = L.length := by omega
    subst this
    rw [List.take_length]
    (repeat' first | (refine Owe.same ?_; first | refine Owe.o ?_ | refine Owe.mk ?_ ?_) | (refine Fork.same ?_; (first | refine fkD ?_ ?_ | refine fkN ?_ ?_ | refine fkM ?_ ?_) <;> intro h) | refine MvQ.stay ?_)
    refine rqF 0 _ rfl rfl rfl ?_; (repeat' first | exact rfl | (refine qS ?_; constructor))
end Go.Pw

set_option linter.unusedSimpArgs false
set_option linter.unusedVariables false
set_option maxHeartbeats 2000000
namespace Go.Pw
set_option maxRecDepth 2000
open Go Go.Proofs A1 A2 A3 A4
theorem flat_take {L : List (List Int)} {k : Nat} (h : k < L.length) : (L.take (k + 1)).flatten = (L.take k).flatten ++ L.getD k [] := by
  rw [List.take_add_one, List.flatten_append, List.getElem?_eq_getElem h, List.getD_eq_getElem?_getD, List.getElem?_eq_getElem h]; simp
theorem flat_le {L : List (List Int)} (k : Nat) : (L.take k).flatten.length ≤ L.flatten.length := by
  have : L.flatten = (L.take k).flatten ++ (L.drop k).flatten := by rw [← List.flatten_append, List.take_append_drop]
  rw [this]; simp
theorem C81 {L : List (List Int)} : (L.length ≤ 1000000 ∧ L.flatten.length ≤ 1000000) → PFD Try.prog 81 [.c (ils L)] (.c (ints L.flatten)) := fun ⟨hL, hF⟩ => by
  have hfl := flat_le (L := L)
  refine pi1 fn81 ?_
  (repeat' first | (refine Owe.same ?_; first | refine Owe.o ?_ | refine Owe.mk ?_ ?_) | (refine Fork.same ?_; (first | refine fkD ?_ ?_ | refine fkN ?_ ?_ | refine fkM ?_ ?_) <;> intro h) | refine MvQ.stay ?_)
  refine Sat.lp0 (fun k : Nat => [(11, vi .i64 k), (10, vi .i64 L.length), (9, .c (ils L)), (0, .c (ils L)), (3, vi .i64 (L.take k).flatten.length)]) (fun k => k ≤ L.length) (fun k => L.length - k) 0 (Nat.zero_le _) (by ((first | refine qen ?_ | refine qvs ?_ | refine qeq ?_ | refine qst ?_ | refine qv ?_ | refine qc ?_ | refine qe ?_ | refine qcs ?_ | skip); (repeat' first | exact rfl | (refine qS ?_; constructor)))) ?_
  intro k hk
  refine Fork.dec (fun hlt => ?_) (fun hlt => ?_)
  · have hlt : k < L.length := by omega
    have e := flat_take hlt
    have e1 := congrArg List.length e
    rw [List.length_append] at e1
    have h1 := hfl (k + 1)
    have h2 := hfl k
    (repeat' first | (refine Owe.same ?_; first | refine Owe.o ?_ | refine Owe.mk ?_ ?_) | (refine Fork.same ?_; (first | refine fkY ?_ | refine fkF ?_ | ((first | refine fkD ?_ ?_ | refine fkN ?_ ?_ | refine fkM ?_ ?_) <;> intro h))) | ((first | refine OpsL.same ?_ | refine OpsDL.same ?_); first | refine oK C76 rfl rfl rfl ?_) | refine MvQ.stay ?_)
    refine again0 (k + 1) hlt (by omega) ?_
    rw [e1]
    ((first | refine qen ?_ | refine qvs ?_ | refine qeq ?_ | refine qst ?_ | refine qv ?_ | refine qc ?_ | refine qe ?_ | refine qcs ?_ | skip); (repeat' first | exact rfl | (refine qS ?_; constructor)))
  · have : k = L.length := by omega
    subst this
    have e0 : (L.take L.length).flatten = L.flatten := by rw [List.take_length]
    rw [e0]
    (repeat' first | (refine Owe.same ?_; first | refine Owe.o ?_ | refine Owe.mk ?_ ?_) | (refine Fork.same ?_; (first | refine fkD ?_ ?_ | refine fkN ?_ ?_ | refine fkM ?_ ?_) <;> intro h) | refine MvQ.stay ?_)
    refine Ops.cs rfl rfl (CallS.of fn104 rfl ?_)
    by_cases h0 : L.flatten.length = 0
    · (repeat' first | (refine Owe.same ?_; first | refine Owe.o ?_ | refine Owe.mk ?_ ?_) | (refine Fork.same ?_; (first | refine fkY ?_ | refine fkF ?_ | ((first | refine fkD ?_ ?_ | refine fkN ?_ ?_ | refine fkM ?_ ?_) <;> intro h))) | ((first | refine OpsL.same ?_ | refine OpsDL.same ?_); first | refine oK C76 rfl rfl rfl ?_) | refine MvQ.stay ?_)
      refine Sat.nilS 6 3 1 (fun i => r1 (([] : List Int).getD i 0)) rfl ?_
      refine Sat.lp (fun k : Nat => ⟨[(27, vi .i64 k), (26, vi .i64 L.length), (25, .c (ils L)), (6, .c (.ms 0 (L.take k).flatten.length))], [(0, rowv 3 1 r1 0 (L.take k).flatten)], 1⟩)
        (fun k => k ≤ L.length) (fun k => L.length - k) 0 [0] (Nat.zero_le _) ?_ ?_
      · (refine qis ?_ ?_ <;> (repeat' first | exact rfl | (refine qS ?_; constructor)))
      · intro k hk
        refine Fork.dec (fun hlt => ?_) (fun hlt => ?_)
        · have hlt : k < L.length := by omega
          have e := flat_take hlt
          have e1 := congrArg List.length e
          rw [List.length_append] at e1
          have h1 := hfl (k + 1)
          (repeat' first | (refine Owe.same ?_; first | refine Owe.o ?_ | refine Owe.mk ?_ ?_) | (refine Fork.same ?_; (first | refine fkY ?_ | refine fkF ?_ | ((first | refine fkD ?_ ?_ | refine fkN ?_ ?_ | refine fkM ?_ ?_) <;> intro h))) | ((first | refine OpsL.same ?_ | refine OpsDL.same ?_); first | refine oK C76 rfl rfl rfl ?_) | refine MvQ.stay ?_)
          refine again (k + 1) [1] hlt (by omega) ?_
          (refine qis ?_ ?_ <;> (repeat' first | exact rfl | (refine qS ?_; constructor)))
          · exact e1.symm
          · exact e
        · have : k = L.length := by omega
          subst this
          (repeat' first | (refine Owe.same ?_; first | refine Owe.o ?_ | refine Owe.mk ?_ ?_) | (refine Fork.same ?_; (first | refine fkY ?_ | refine fkF ?_ | ((first | refine fkD ?_ ?_ | refine fkN ?_ ?_ | refine fkM ?_ ?_) <;> intro h))) | ((first | refine OpsL.same ?_ | refine OpsDL.same ?_); first | refine oK C76 rfl rfl rfl ?_) | refine MvQ.stay ?_)
          rw [← e0]
          refine rqF 0 _ rfl rfl rfl ?_; (repeat' first | exact rfl | (refine qS ?_; constructor))
    · (repeat' first | (refine Owe.same ?_; first | refine Owe.o ?_ | refine Owe.mk ?_ ?_) | (refine Fork.same ?_; (first | refine fkY ?_ | refine fkF ?_ | ((first | refine fkD ?_ ?_ | refine fkN ?_ ?_ | refine fkM ?_ ?_) <;> intro h))) | ((first | refine OpsL.same ?_ | refine OpsDL.same ?_); first | refine oK C76 rfl rfl rfl ?_) | refine MvQ.stay ?_)
      refine Sat.lp (fun k : Nat => ⟨[(27, vi .i64 k), (26, vi .i64 L.length), (25, .c (ils L)), (6, .c (.ms 0 (L.take k).flatten.length))], [(0, rowv 3 1 r1 0 (L.take k).flatten)], 1⟩)
        (fun k => k ≤ L.length) (fun k => L.length - k) 0 [1] (Nat.zero_le _) ?_ ?_
      · (refine qis ?_ ?_ <;> (repeat' first | exact rfl | (refine qS ?_; constructor)))
      · intro k hk
        refine Fork.dec (fun hlt => ?_) (fun hlt => ?_)
        · have hlt : k < L.length := by omega
          have e := flat_take hlt
          have e1 := congrArg List.length e
          rw [List.length_append] at e1
          have h1 := hfl (k + 1)
          (repeat' first | (refine Owe.same ?_; first | refine Owe.o ?_ | refine Owe.mk ?_ ?_) | (refine Fork.same ?_; (first | refine fkY ?_ | refine fkF ?_ | ((first | refine fkD ?_ ?_ | refine fkN ?_ ?_ | refine fkM ?_ ?_) <;> intro h))) | ((first | refine OpsL.same ?_ | refine OpsDL.same ?_); first | refine oK C76 rfl rfl rfl ?_) | refine MvQ.stay ?_)
          refine again (k + 1) [1] hlt (by omega) ?_
          (refine qis ?_ ?_ <;> (repeat' first | exact rfl | (refine qS ?_; constructor)))
          · exact e1.symm
          · exact e
        · have : k = L.length := by omega
          subst this
          (repeat' first | (refine Owe.same ?_; first | refine Owe.o ?_ | refine Owe.mk ?_ ?_) | (refine Fork.same ?_; (first | refine fkY ?_ | refine fkF ?_ | ((first | refine fkD ?_ ?_ | refine fkN ?_ ?_ | refine fkM ?_ ?_) <;> intro h))) | ((first | refine OpsL.same ?_ | refine OpsDL.same ?_); first | refine oK C76 rfl rfl rfl ?_) | refine MvQ.stay ?_)
          rw [← e0]
          refine rqF 0 _ rfl rfl rfl ?_; (repeat' first | exact rfl | (refine qS ?_; constructor))
theorem C80 {A B : List Ft} {s : Int} {l : List Int} : (B.length ≤ 1000000 ∧ l.length ≤ 1000000) → PFD Try.prog 80 [.c (ints l), .c (.rp (suD A B s))] (vbl (!decide ((l.length : Int) = (B.length : Int) + 1))) := fun h => by
  refine pi1 fn80 ?_
  (repeat' first | (refine Owe.same ?_; first | refine Owe.o ?_ | refine Owe.mk ?_ ?_) | (refine Fork.same ?_; (first | refine fkD ?_ ?_ | refine fkN ?_ ?_ | refine fkM ?_ ?_) <;> intro h) | refine MvQ.stay ?_)
  (refine rqK rfl ?_; (repeat' first | exact rfl | (refine qS ?_; constructor)))
theorem C103 {A B : List Ft} {s : Int} {L : List (List Int)} : (L.length ≤ 1000000 ∧ B.length ≤ 100000 ∧ ∀ l ∈ L, l.length = B.length + 1) → PFD Try.prog 103 [.c (ils L), .c (.fnR 80 [suD A B s])] (vi .i64 (-1)) := fun ⟨hL, hB, hl⟩ => by
  refine pi1 fn103 ?_
  (repeat' first | (refine Owe.same ?_; first | refine Owe.o ?_ | refine Owe.mk ?_ ?_) | (refine Fork.same ?_; (first | refine fkD ?_ ?_ | refine fkN ?_ ?_ | refine fkM ?_ ?_) <;> intro h) | refine MvQ.stay ?_)
  refine Sat.lp (fun k : Nat => ⟨[(8, vi .i64 k), (7, vi .i64 L.length), (6, .c (ils L)), (0, .c (ils L)), (1, .c (.fnR 80 [suD A B s]))], [], 0⟩)
    (fun k => k ≤ L.length) (fun k => L.length - k) 0 [] (Nat.zero_le _) ?_ ?_
  · (refine qis ?_ ?_ <;> (repeat' first | exact rfl | (refine qS ?_; constructor)))
  intro k hk
  refine Fork.dec (fun hlt => ?_) (fun hlt => ?_)
  · have hlt : k < L.length := by omega
    have e := hl _ (getD_mem [] hlt)
    have c80 := C80 (A := A) (B := B) (s := s) (l := L.getD k []) ⟨by omega, by omega⟩
    rw [decide_eq_true (by rw [e]; omega)] at c80
    have c80 : PFD Try.prog 80 [.c (ints (L.getD (k : Int).toNat [])), .c (.rp (suD A B s))] (vbl false) := c80
    (repeat' first | (refine Owe.same ?_; first | refine Owe.o ?_ | refine Owe.mk ?_ ?_) | (refine Fork.same ?_; (first | refine fkD ?_ ?_ | refine fkN ?_ ?_ | refine fkM ?_ ?_) <;> intro h) | refine MvQ.stay ?_)
    refine A1.pR c80 rfl rfl ?_
    (repeat' first | (refine Owe.same ?_; first | refine Owe.o ?_ | refine Owe.mk ?_ ?_) | (refine Fork.same ?_; (first | refine fkY ?_ | refine fkF ?_ | ((first | refine fkD ?_ ?_ | refine fkN ?_ ?_ | refine fkM ?_ ?_) <;> intro h))) | ((first | refine OpsL.same ?_ | refine OpsDL.same ?_); first | refine oK C76 rfl rfl rfl ?_) | refine MvQ.stay ?_)
    refine again (k + 1) [] hlt (by omega) ?_
    (refine qis ?_ ?_ <;> (repeat' first | exact rfl | (refine qS ?_; constructor)))
  · have : k = L.length := by omega
    subst this
    (repeat' first | (refine Owe.same ?_; first | refine Owe.o ?_ | refine Owe.mk ?_ ?_) | (refine Fork.same ?_; (first | refine fkD ?_ ?_ | refine fkN ?_ ?_ | refine fkM ?_ ?_) <;> intro h) | refine MvQ.stay ?_)
    (refine rqK rfl ?_; (repeat' first | exact rfl | (refine qS ?_; constructor)))
theorem C79 {A B : List Ft} {s : Int} {L : List (List Int)} : (L.length ≤ 1000000 ∧ B.length ≤ 100000 ∧ ∀ l ∈ L, l.length = B.length + 1) → PFD Try.prog 79 [.c (ils L), .c (.fnR 80 [suD A B s])] (vbl false) := fun h => by
  have c := C103 (A := A) (s := s) h
  refine pi1 fn79 ?_
  (repeat' first | (refine Owe.same ?_; first | refine Owe.o ?_ | refine Owe.mk ?_ ?_) | (refine Fork.same ?_; (first | refine fkY ?_ | refine fkF ?_ | ((first | refine fkD ?_ ?_ | refine fkN ?_ ?_ | refine fkM ?_ ?_) <;> intro h))) | ((first | refine OpsL.same ?_ | refine OpsDL.same ?_); first | refine oK c rfl rfl rfl ?_) | refine MvQ.stay ?_)
  (refine rqK rfl ?_; (repeat' first | exact rfl | (refine qS ?_; constructor)))
theorem ptL_all {A B : List Ft} {s : Int} {n : Nat} : ∀ l ∈ ptL s A B n, l.length = B.length + 1 := fun l hl => by
  rw [ptL, List.mem_map] at hl
  obtain ⟨i, _, rfl⟩ := hl
  exact ptR_len
theorem flat_in {A B : List Ft} {s : Int} (hS : SvB A B s) : ∀ x ∈ (ptL s A B (A.length + 1)).flatten, 0 ≤ x ∧ x ≤ 1600000 := fun x hx => by
  obtain ⟨l, hl, hx⟩ := List.mem_flatten.1 hx
  rw [ptL, List.mem_map] at hl
  obtain ⟨i, hi, rfl⟩ := hl
  rw [ptR, List.mem_map] at hx
  obtain ⟨k, hk, rfl⟩ := hx
  rw [List.mem_range] at hi hk
  exact pT_le hS (by omega) (by omega)
theorem flat_n {A B : List Ft} {s : Int} : ∀ n, (ptL s A B n).flatten.length = n * (B.length + 1)
  | 0 => by simp [ptL]
  | n + 1 => by rw [ptL_succ, List.flatten_append, List.length_append, flat_n n]; simp [ptR_len, Nat.succ_mul]
theorem C43 {A B : List Ft} {s : Int} : SvB A B s → PFD Try.prog 43 [suv A B s, .c (ils (ptL s A B (A.length + 1)))] (vi .i64 0) := fun hS => by
  have ha := hS.a
  have hb := hS.b
  have hs := hS.s
  have hLl := ptL_len (s := s) (A := A) (B := B) (n := A.length + 1)
  have c79 := C79 (A := A) (s := s) ⟨by omega, by omega, ptL_all (s := s) (A := A) (B := B) (n := A.length + 1)⟩
  have hFl := flat_n (s := s) (A := A) (B := B) (A.length + 1)
  have hFm : (A.length + 1) * (B.length + 1) ≤ 9 * 9 := Nat.mul_le_mul (by omega) (by omega)
  have c81 := C81 (L := ptL s A B (A.length + 1)) ⟨by omega, by omega⟩
  have hFi := flat_in hS
  have hLk : ∀ i, i < A.length + 1 → (ptL s A B (A.length + 1)).getD i [] = ptR s A B i (B.length + 1) := fun i hi => ptL_at hi
  have hL0 : (ptL s A B (A.length + 1)).getD (Int.toNat 0) [] = ptR s A B 0 (B.length + 1) := hLk 0 (by omega)
  have hR0 : (ptR s A B 0 (B.length + 1)).getD (Int.toNat 0) 0 = 0 := ptR_at (by omega)
  have f1 : ((ptL s A B (A.length + 1)).getD (Int.toNat 0) []).length = B.length + 1 := by rw [hL0, ptR_len]
  have f2 : ((ptL s A B (A.length + 1)).getD (Int.toNat 0) []).getD (Int.toNat 0) 0 = 0 := by rw [hL0, hR0]
  generalize hL : ptL s A B (A.length + 1) = L at *
  generalize L.flatten = F at *
  refine pi1 fn43 ?_
  (repeat' first | (refine Owe.same ?_; first | refine Owe.o ?_ | refine Owe.mk ?_ ?_) | (refine Fork.same ?_; (first | refine fkY ?_ | refine fkF ?_ | ((first | refine fkD ?_ ?_ | refine fkN ?_ ?_ | refine fkM ?_ ?_) <;> (intro h; try (exfalso; omega))))) | ((first | refine OpsL.same ?_ | refine OpsDL.same ?_); first | refine pK c79 rfl rfl ?_ | refine pK c81 rfl rfl ?_) | refine MvQ.stay ?_)
  refine Sat.lp (fun k : Nat => ⟨[(29, vi .i64 k), (28, vi .i64 F.length), (27, .c (ints F)), (1, .c (ils L)), (2, .c (.rp (suD A B s)))], [], 1⟩)
    (fun k => k ≤ F.length) (fun k => F.length - k) 0 [0] (Nat.zero_le _) ?_ ?_
  · (refine qis ?_ ?_ <;> (repeat' first | exact rfl | (refine qS ?_; constructor)))
  intro k hk
  refine Fork.dec (fun hlt => ?_) (fun hlt => ?_)
  · have hlt : k < F.length := by omega
    have h1 := hFi _ (getD_mem 0 hlt)
    have c76 := C76 (n := F.getD k 0) (lo := 0) (hi := 3200000)
    rw [decide_eq_true (by omega)] at c76
    (repeat' first | (refine Owe.same ?_; first | refine Owe.o ?_ | refine Owe.mk ?_ ?_) | (refine Fork.same ?_; (first | refine fkY ?_ | refine fkF ?_ | ((first | refine fkD ?_ ?_ | refine fkN ?_ ?_ | refine fkM ?_ ?_) <;> intro h))) | ((first | refine OpsL.same ?_ | refine OpsDL.same ?_); first | refine oK c76 rfl rfl rfl ?_) | refine MvQ.stay ?_)
    refine again (k + 1) [0] hlt (by omega) ?_
    (refine qis ?_ ?_ <;> (repeat' first | exact rfl | (refine qS ?_; constructor)))
  · clear hFi hk c81 hFl c79
    (repeat' first | (refine Owe.same ?_; first | refine Owe.o ?_ | refine Owe.mk ?_ ?_) | (refine Fork.same ?_; (first | refine fkD ?_ ?_ | refine fkN ?_ ?_ | refine fkM ?_ ?_) <;> (intro h; try (exfalso; omega))) | refine MvQ.stay ?_)
    refine Sat.lp (fun i : Nat => ⟨[(45, vi .i64 i), (44, vi .i64 L.length), (43, .c (ils L)), (7, vbl true), (1, .c (ils L)), (2, .c (.rp (suD A B s)))], [], 1⟩)
      (fun i => i ≤ L.length) (fun i => L.length - i) 0 [0] (Nat.zero_le _) ?_ ?_
    · (refine qis ?_ ?_ <;> (repeat' first | exact rfl | (refine qS ?_; constructor)))
      exact decide_eq_true f2
    intro i hi
    refine Fork.dec (fun hli => ?_) (fun hli => ?_)
    · have hli : i < A.length + 1 := by omega
      have eR := hLk i hli
      have g0 : (L.getD i []).length = B.length + 1 := by rw [eR, ptR_len]
      (repeat' first | (refine Owe.same ?_; first | refine Owe.o ?_ | refine Owe.mk ?_ ?_) | (refine Fork.same ?_; (first | refine fkD ?_ ?_ | refine fkN ?_ ?_ | refine fkM ?_ ?_) <;> (intro h; try (exfalso; omega))) | refine MvQ.stay ?_)
      refine Sat.lp (fun k : Nat => ⟨[(52, vi .i64 k), (51, vi .i64 (L.getD i []).length), (50, .c (ints (L.getD i []))), (9, .c (ints (L.getD i []))), (8, vi .i64 i), (45, vi .i64 i), (44, vi .i64 L.length), (43, .c (ils L)), (7, vbl true), (1, .c (ils L)), (2, .c (.rp (suD A B s)))], [], 1⟩)
        (fun k => k ≤ B.length + 1) (fun k => B.length + 1 - k) 0 [0] (Nat.zero_le _) ?_ ?_
      · (refine qis ?_ ?_ <;> (repeat' first | exact rfl | (refine qS ?_; constructor)))
      intro k hk
      refine Fork.dec (fun hlk => ?_) (fun hlk => ?_)
      · have hlk : k < B.length + 1 := by omega
        have n0 := pT_le hS (i := i) (k := k) (by omega) (by omega)
        have g1 : (L.getD i []).getD (k : Int).toNat 0 = pT s A B i k := by rw [eR, show (k : Int).toNat = k from rfl, ptR_at (by omega)]
        rcases i with _ | i
        · rcases k with _ | k
          · (repeat' first | (refine Owe.same ?_; first | refine Owe.o ?_ | refine Owe.mk ?_ ?_) | (refine Fork.same ?_; (first | refine fkY ?_ | refine fkF ?_ | ((first | refine fkD ?_ ?_ | refine fkN ?_ ?_ | refine fkM ?_ ?_) <;> (intro h; try (exfalso; omega))))) | ((first | refine OpsL.same ?_ | refine OpsDL.same ?_); first | refine oK C76 rfl rfl rfl ?_) | refine MvQ.stay ?_)
            refine again 1 [0] (by omega) (by omega) ?_
            (refine qis ?_ ?_ <;> (repeat' first | exact rfl | (refine qS ?_; constructor)))
          · have g2 : (L.getD 0 []).getD (max 0 (((k + 1 : Nat) : Int) - 1)).toNat 0 = pT s A B 0 k := by
              rw [eR, show (max 0 (((k + 1 : Nat) : Int) - 1)).toNat = k by omega, ptR_at (by omega)]
            have q1 := pT_3 (s := s) (A := A) (B := B) 0 k
            have n1 := pT_le hS (i := 0) (k := k) (by omega) (by omega)
            (repeat' first | (refine Owe.same ?_; first | refine Owe.o ?_ | refine Owe.mk ?_ ?_) | (refine Fork.same ?_; (first | refine fkY ?_ | refine fkF ?_ | ((first | refine fkD ?_ ?_ | refine fkN ?_ ?_ | refine fkM ?_ ?_) <;> (intro h; try (exfalso; omega))))) | ((first | refine OpsL.same ?_ | refine OpsDL.same ?_); first | refine oK C76 rfl rfl rfl ?_) | refine MvQ.stay ?_)
            all_goals first
              | (refine again (k + 2) [0] (by omega) (by omega) ?_; (refine qis ?_ ?_ <;> (repeat' first | exact rfl | (refine qS ?_; constructor))); done)
              | (refine again (k + 2) [0] (by omega) (by omega) ?_; (refine qis ?_ ?_ <;> (repeat' first | exact rfl | (refine qS ?_; constructor))); exact decide_eq_true (by omega))
              | (simp only [R64]; omega)
        · have eR' := hLk i (by omega)
          have e1 : (L.getD (max 0 (((i + 1 : Nat) : Int) - 1)).toNat []) = ptR s A B i (B.length + 1) := by
            rw [show (max 0 (((i + 1 : Nat) : Int) - 1)).toNat = i by omega, eR']
          have e2 : (L.getD (((i + 1 : Nat) : Int) - 1).toNat []) = ptR s A B i (B.length + 1) := by
            rw [show (((i + 1 : Nat) : Int) - 1).toNat = i by omega, eR']
          have g3 : (L.getD (max 0 (((i + 1 : Nat) : Int) - 1)).toNat []).length = B.length + 1 := by rw [e1, ptR_len]
          have g4 : (L.getD (max 0 (((i + 1 : Nat) : Int) - 1)).toNat []).getD (k : Int).toNat 0 = pT s A B i k := by rw [e1, show (k : Int).toNat = k from rfl, ptR_at (by omega)]
          have g5 : (L.getD (((i + 1 : Nat) : Int) - 1).toNat []).length = B.length + 1 := by rw [e2, ptR_len]
          have q2 := pT_2 (s := s) (A := A) (B := B) i k
          have n2 := pT_le hS (i := i) (k := k) (by omega) (by omega)
          clear e1
          rcases k with _ | k
          · (repeat' first | (refine Owe.same ?_; first | refine Owe.o ?_ | refine Owe.mk ?_ ?_) | (refine Fork.same ?_; (first | refine fkY ?_ | refine fkF ?_ | ((first | refine fkD ?_ ?_ | refine fkN ?_ ?_ | refine fkM ?_ ?_) <;> (intro h; try (exfalso; omega))))) | ((first | refine OpsL.same ?_ | refine OpsDL.same ?_); first | refine oK C76 rfl rfl rfl ?_) | refine MvQ.stay ?_)
            all_goals first
              | (refine again 1 [0] (by omega) (by omega) ?_; (refine qis ?_ ?_ <;> (repeat' first | exact rfl | (refine qS ?_; constructor))); done)
              | (refine again 1 [0] (by omega) (by omega) ?_; (refine qis ?_ ?_ <;> (repeat' first | exact rfl | (refine qS ?_; constructor))); exact decide_eq_true (by omega))
              | (simp only [R64]; omega)
          · have g2 : (L.getD (i + 1) []).getD (max 0 (((k + 1 : Nat) : Int) - 1)).toNat 0 = pT s A B (i + 1) k := by
              rw [eR, show (max 0 (((k + 1 : Nat) : Int) - 1)).toNat = k by omega, ptR_at (by omega)]
            have g6 : (L.getD (((i + 1 : Nat) : Int) - 1).toNat []).getD (((k + 1 : Nat) : Int) - 1).toNat 0 = pT s A B i k := by
              rw [e2, show (((k + 1 : Nat) : Int) - 1).toNat = k by omega, ptR_at (by omega)]
            have q1 := pT_3 (s := s) (A := A) (B := B) (i + 1) k
            have q3 := pT_4 (s := s) (A := A) (B := B) (i := i) (k := k)
            have n1 := pT_le hS (i := i + 1) (k := k) (by omega) (by omega)
            have n3 := pT_le hS (i := i) (k := k) (by omega) (by omega)
            have c42 := C42 (i := i) (k := k) ⟨hS, by omega, by omega⟩
            rw [show (i : Int) = ((i + 1 : Nat) : Int) - 1 by omega, show (k : Int) = ((k + 1 : Nat) : Int) - 1 by omega] at c42
            have n4 := dst_le hS (i := i) (k := k) (by omega) (by omega)
            have n5 := dst_nn (a := A.getD i ft0) (b := B.getD k ft0)
            clear e2
            (repeat' first | (refine Owe.same ?_; first | refine Owe.o ?_ | refine Owe.mk ?_ ?_) | (refine Fork.same ?_; (first | refine fkY ?_ | refine fkF ?_ | ((first | refine fkD ?_ ?_ | refine fkN ?_ ?_ | refine fkM ?_ ?_) <;> (intro h; try (exfalso; omega))))) | ((first | refine OpsL.same ?_ | refine OpsDL.same ?_); first | refine oK c42 rfl rfl rfl ?_) | refine MvQ.stay ?_)
            all_goals first
              | (refine again (k + 2) [0] (by omega) (by omega) ?_; (refine qis ?_ ?_ <;> (repeat' first | exact rfl | (refine qS ?_; constructor))); done)
              | (refine again (k + 2) [0] (by omega) (by omega) ?_; (refine qis ?_ ?_ <;> (repeat' first | exact rfl | (refine qS ?_; constructor))); exact decide_eq_true (by have := q3 h; omega))
              | (simp only [R64]; omega)
      · have : k = B.length + 1 := by omega
        subst this
        (repeat' first | (refine Owe.same ?_; first | refine Owe.o ?_ | refine Owe.mk ?_ ?_) | (refine Fork.same ?_; (first | refine fkD ?_ ?_ | refine fkN ?_ ?_ | refine fkM ?_ ?_) <;> (intro h; try (exfalso; omega))) | refine MvQ.stay ?_)
        refine again (i + 1) [0] (by omega) (by omega) ?_
        (refine qis ?_ ?_ <;> (repeat' first | exact rfl | (refine qS ?_; constructor)))
    · have : i = L.length := by omega
      subst this
      (repeat' first | (refine Owe.same ?_; first | refine Owe.o ?_ | refine Owe.mk ?_ ?_) | (refine Fork.same ?_; (first | refine fkY ?_ | refine fkF ?_ | ((first | refine fkD ?_ ?_ | refine fkN ?_ ?_ | refine fkM ?_ ?_) <;> intro h))) | ((first | refine OpsL.same ?_ | refine OpsDL.same ?_); first | refine oK C41 rfl rfl rfl ?_) | refine MvQ.stay ?_)
      (refine rqK rfl ?_; (repeat' first | exact rfl | (refine qS ?_; constructor)))
end Go.Pw

set_option linter.unusedSimpArgs false
set_option linter.unusedVariables false
set_option maxHeartbeats 2000000
namespace Go.Pw
set_option maxRecDepth 2000
open Go Go.Proofs A1 A2 A3 A4
theorem sumD_take {A B : List Ft} : ∀ {l : List (Nat × Nat)} {k : Nat}, k < l.length → sumD A B (l.take (k + 1)) = sumD A B (l.take k) + dst (A.getD (l.getD k (0, 0)).1 ft0) (B.getD (l.getD k (0, 0)).2 ft0)
  | [], k, h => by simp at h
  | p :: r, 0, _ => by simp [sumD]
  | p :: r, k + 1, h => by
    have := sumD_take (A := A) (B := B) (l := r) (k := k) (by simpa using h)
    rw [List.take_succ_cons, List.take_succ_cons, sumD, sumD, this]
    simp only [List.getD_cons_succ]; omega
theorem sumD_bd {A B : List Ft} {s : Int} (hS : SvB A B s) : ∀ {l : List (Nat × Nat)}, (∀ p ∈ l, p.1 < A.length ∧ p.2 < B.length) → 0 ≤ sumD A B l ∧ sumD A B l ≤ l.length * 100000
  | [], _ => by simp [sumD]
  | p :: r, h => by
    obtain ⟨h1, h2⟩ := sumD_bd hS (l := r) fun q hq => h q (List.mem_cons_of_mem _ hq)
    have h3 := h p (List.mem_cons_self ..)
    have h4 := dst_le hS h3.1 h3.2
    have h5 := dst_nn (a := A.getD p.1 ft0) (b := B.getD p.2 ft0)
    rw [sumD, List.length_cons]
    constructor <;> omega
theorem pI_at {l : List (Nat × Nat)} {k : Nat} (h : k < l.length) : (pI l).getD k (0, 0) = (((l.getD k (0, 0)).1 : Int), ((l.getD k (0, 0)).2 : Int)) := by
  rw [pI, List.getD_eq_getElem?_getD, List.getElem?_map, List.getElem?_eq_getElem h, List.getD_eq_getElem?_getD, List.getElem?_eq_getElem h]; rfl
theorem asc_len {α : Type} (f : α → Nat) : ∀ {n : Nat} {l : List α}, l.Pairwise (fun p q => f p < f q) → (∀ p ∈ l, f p < n) → l.length ≤ n
  | n, [], _, _ => Nat.zero_le _
  | 0, p :: r, _, h => absurd (h p (List.mem_cons_self ..)) (Nat.not_lt_zero _)
  | n + 1, p :: r, hp, h => by
    rw [List.pairwise_cons] at hp
    -- all behind p are above p: shift down by one
    have key : ∀ {m : Nat} {l : List α}, l.Pairwise (fun p q => f p < f q) → (∀ q ∈ l, m ≤ f q ∧ f q < m + l.length) ∨ ∃ q ∈ l, m + l.length ≤ f q ∨ f q < m := fun {m l} _ => by
      by_cases hh : ∀ q ∈ l, m ≤ f q ∧ f q < m + l.length
      · exact .inl hh
      · right
        simp only [Classical.not_forall] at hh
        obtain ⟨q, hq, hn⟩ := hh
        exact ⟨q, hq, by omega⟩
    clear key
    have hlast : ∀ {l : List α} {m : Nat}, l.Pairwise (fun p q => f p < f q) → (∀ q ∈ l, m ≤ f q) → ∀ i (hi : i < l.length), m + i ≤ f l[i] := fun {l} => by
      induction l with
      | nil => intro m _ _ i hi; simp at hi
      | cons a t ih =>
        intro m hpw hge i hi
        rw [List.pairwise_cons] at hpw
        cases i with
        | zero => exact hge a (List.mem_cons_self ..)
        | succ i =>
          have := ih (m := m + 1) hpw.2 (fun q hq => by have h1 := hpw.1 q hq; have h2 := hge a (List.mem_cons_self ..); omega) i (by simpa using hi)
          rw [List.getElem_cons_succ]; omega
    have hl := hlast (l := p :: r) (m := 0) (List.pairwise_cons.2 hp) (fun _ _ => Nat.zero_le _) r.length (by simp)
    have := h _ (List.getElem_mem (l := p :: r) (n := r.length) (by simp))
    rw [List.length_cons]; omega
def lastP (l : List (Nat × Nat)) : Nat → Int × Int
  | 0 => (-1, -1)
  | k + 1 => (pI l).getD k (0, 0)
theorem C12 {A B : List Ft} {s : Int} : (FtsOk A ∧ FtsOk B ∧ 0 ≤ s ∧ s ≤ 100000) → PFD Try.prog 12 [.c (fts A), .c (fts B), vi .i64 s, mtv s A B] (.tup [vi .i64 (csT s A B), vi .i64 0]) := fun h => by
  have hS := h.1.sv h.2.1 h.2.2
  have c33 := C33 h
  have c43 := C43 hS
  have ha := hS.a
  have hb := hS.b
  have hs := hS.s
  have hok := mtP_ok (s := s) A.length A B
  have hcost := mtP_cost (s := s) A.length A B (Nat.le_refl _)
  have hml := mtP_len (s := s) A.length A B
  have hLl := ptL_len (s := s) (A := A) (B := B) (n := A.length + 1)
  have f1 : (ptL s A B (A.length + 1)).getD ((A.length : Nat) : Int).toNat [] = ptR s A B A.length (B.length + 1) := by
    rw [show ((A.length : Nat) : Int).toNat = A.length from rfl, ptL_at (by omega)]
  have f2 : ((ptL s A B (A.length + 1)).getD ((A.length : Nat) : Int).toNat []).length = B.length + 1 := by rw [f1, ptR_len]
  have f3 : ((ptL s A B (A.length + 1)).getD ((A.length : Nat) : Int).toNat []).getD ((B.length : Nat) : Int).toNat 0 = csT s A B := by
    rw [f1, show ((B.length : Nat) : Int).toNat = B.length from rfl, ptR_at (by omega), csT]
  have n1 := csT_le hS
  show PFD Try.prog 12 [.c (fts A), .c (fts B), vi .i64 s, .agg [prs (pI (mtP s A.length A B)), ils (ptL s A B (A.length + 1))]] _
  generalize mtP s A.length A B = M at *
  generalize ptL s A B (A.length + 1) = L at *
  have hpl := pI_len (l := M)
  have hm2 : M.length ≤ B.length := asc_len (fun p => p.2) (hok.asc.imp fun h => h.2) fun p hp => (hok.rng p hp).2.1
  have hc0 : 0 ≤ ((A.length : Int) + B.length - 2 * ((pI M).length : Int)) * s ∧ ((A.length : Int) + B.length - 2 * ((pI M).length : Int)) * s ≤ 16 * 100000 := ⟨Int.mul_nonneg (by omega) hs.1, Int.mul_le_mul (by omega) hs.2 hs.1 (by decide)⟩
  have hrg : ∀ k, k < M.length → ((M.getD k (0, 0)).1 < A.length ∧ (M.getD k (0, 0)).2 < B.length) ∧ (A.getD (M.getD k (0, 0)).1 ft0).2.1 = (B.getD (M.getD k (0, 0)).2 ft0).2.1 := fun k hk => by
    have := hok.rng _ (getD_mem (0, 0) hk)
    exact ⟨⟨this.1, this.2.1⟩, this.2.2⟩
  have hup : ∀ k, k < M.length → (lastP M k).1 < ((M.getD k (0, 0)).1 : Int) ∧ (lastP M k).2 < ((M.getD k (0, 0)).2 : Int) := fun k hk => by
    cases k with
    | zero => simp only [lastP]; omega
    | succ k =>
      rw [lastP, pI_at (by omega)]
      have := List.pairwise_iff_getElem.1 hok.asc k (k + 1) (by omega) hk (by omega)
      rw [List.getD_eq_getElem?_getD, List.getElem?_eq_getElem (by omega : k < M.length), List.getD_eq_getElem?_getD, List.getElem?_eq_getElem hk]
      simp only [Option.getD_some]; omega
  have hsm : ∀ k, 0 ≤ sumD A B (M.take k) ∧ sumD A B (M.take k) ≤ 8 * 100000 := fun k => by
    have h1 := sumD_bd hS (l := M.take k) fun p hp => by have := hok.rng p (List.mem_of_mem_take hp); exact ⟨this.1, this.2.1⟩
    have h2 : (M.take k).length ≤ 8 := by rw [List.length_take]; omega
    omega
  refine pi2 fn12 ?_
  (repeat' first | (refine Owe.same ?_; first | refine Owe.o ?_ | refine Owe.mk ?_ ?_) | (refine Fork.same ?_; (first | refine fkY ?_ | refine fkF ?_ | ((first | refine fkD ?_ ?_ | refine fkN ?_ ?_ | refine fkM ?_ ?_) <;> intro h))) | ((first | refine OpsL.same ?_ | refine OpsDL.same ?_); first | refine oK c33 rfl rfl rfl ?_) | refine MvQ.stay ?_)
  refine Ops.cs rfl rfl (CallS.of fn37 rfl ?_)
  (repeat' first | (refine Owe.same ?_; first | refine Owe.o ?_ | refine Owe.mk ?_ ?_) | (refine Fork.same ?_; (first | refine fkY ?_ | refine fkF ?_ | ((first | refine fkD ?_ ?_ | refine fkN ?_ ?_ | refine fkM ?_ ?_) <;> intro h))) | ((first | refine OpsL.same ?_ | refine OpsDL.same ?_); first | refine oK c33 rfl rfl rfl ?_) | refine MvQ.stay ?_)
  refine Sat.lp (fun k : Nat => ⟨[(11, vi .i64 k), (10, vi .i64 (pI M).length), (9, .c (prs (pI M))), (1, .c (.fn 38 [0, 1, 4, 2, 3]))],
      [(4, .box [int (lastP M k).1, int (lastP M k).2]), (3, .box [int (((A.length : Int) + B.length - 2 * ((pI M).length : Int)) * s + sumD A B (M.take k))]), (2, .box [fts A, fts B, int s]), (1, .box [fts B]), (0, .box [fts A])], 5⟩)
    (fun k => k ≤ M.length) (fun k => M.length - k) 0 [] (Nat.zero_le _) ?_ ?_
  · (refine qis ?_ ?_ <;> (repeat' first | exact rfl | (refine qS ?_; constructor)))
    show _ = _ + sumD A B []
    rw [sumD, Int.add_zero]
  intro k hk
  refine Fork.dec (fun hlt => ?_) (fun hlt => ?_)
  · have hlt : k < M.length := by omega
    obtain ⟨⟨r1', r2'⟩, r3⟩ := hrg k hlt
    obtain ⟨u1, u2⟩ := hup k hlt
    have s1 := hsm k
    have s2 := hsm (k + 1)
    have es := sumD_take (A := A) (B := B) hlt
    have c42 := C42 ⟨hS, r1', r2'⟩
    rw [decide_eq_true r3] at c42
    have ep : (pI M).getD (k : Int).toNat (0, 0) = (((M.getD k (0, 0)).1 : Int), ((M.getD k (0, 0)).2 : Int)) := pI_at hlt
    have c40a : PFD Try.prog 40 [vi .i64 ((pI M).getD (k : Int).toNat (0, 0)).1, vi .i64 A.length] (vi .i64 0) := by
      have c := C40 (n := ((M.getD k (0, 0)).1 : Int)) (m := A.length) ⟨by omega, by omega⟩
      rw [unl_eq, if_pos ⟨by omega, by omega⟩] at c
      rw [ep]; exact c
    have c40b : PFD Try.prog 40 [vi .i64 ((pI M).getD (k : Int).toNat (0, 0)).2, vi .i64 B.length] (vi .i64 0) := by
      have c := C40 (n := ((M.getD k (0, 0)).2 : Int)) (m := B.length) ⟨by omega, by omega⟩
      rw [unl_eq, if_pos ⟨by omega, by omega⟩] at c
      rw [ep]; exact c
    have c42 : PFD Try.prog 42 [suv A B s, vi .i64 ((pI M).getD (k : Int).toNat (0, 0)).1, vi .i64 ((pI M).getD (k : Int).toNat (0, 0)).2] (.tup [vi .i64 (dst (A.getD (M.getD k (0, 0)).1 ft0) (B.getD (M.getD k (0, 0)).2 ft0)), vbl true]) := by
      rw [ep]; exact c42
    have w1 : ((pI M).getD (k : Int).toNat (0, 0)).1 > (lastP M k).1 := by rw [ep]; exact u1
    have w2 : ((pI M).getD (k : Int).toNat (0, 0)).2 > (lastP M k).2 := by rw [ep]; exact u2
    have c41 : ∀ e, PFD Try.prog 41 [vbl true, vi .i64 e] (vi .i64 0) := fun e => C41
    have c8 : PFD Try.prog 39 [.c (ints [0, 0, 0])] (vi .i64 0) := C39 (l := [0, 0, 0]) (by decide)
    (repeat' first | (refine Owe.same ?_; first | refine Owe.o ?_ | refine Owe.mk ?_ ?_) | (refine Fork.same ?_; (first | refine fkY ?_ | refine fkF ?_ | ((first | refine fkD ?_ ?_ | refine fkN ?_ ?_ | refine fkM ?_ ?_) <;> intro h))) | ((first | refine OpsL.same ?_ | refine OpsDL.same ?_); first | refine oK C76 rfl rfl rfl ?_) | refine MvQ.stay ?_)
    refine Ops.cs rfl rfl (CallS.of fn38 rfl ?_)
    have c41b : PFD Try.prog 41 [vbl (decide ((lastP M k).2 < ((pI M).getD (k : Int).toNat (0, 0)).2)), vi .i64 9] (vi .i64 0) := by rw [decide_eq_true w2]; exact C41
    (repeat' first | (refine Owe.same ?_; first | refine Owe.o ?_ | refine Owe.mk ?_ ?_) | (refine Fork.same ?_; (first | refine fkY ?_ | refine fkF ?_ | ((first | refine fkD ?_ ?_ | refine fkN ?_ ?_ | refine fkM ?_ ?_) <;> (intro h; try (exfalso; omega))))) | ((first | refine OpsL.same ?_ | refine OpsDL.same ?_); first | refine oK c40a rfl rfl rfl ?_ | refine oK c40b rfl rfl rfl ?_ | refine oK c41b rfl rfl rfl ?_) | refine MvQ.stay ?_)
    ((first | refine OpsL.same ?_ | refine OpsDL.same ?_); first | refine pK c8 rfl rfl ?_)
    (repeat' first | (refine Owe.same ?_; first | refine Owe.o ?_ | refine Owe.mk ?_ ?_) | (refine Fork.same ?_; (first | refine fkY ?_ | refine fkF ?_ | ((first | refine fkD ?_ ?_ | refine fkN ?_ ?_ | refine fkM ?_ ?_) <;> (intro h; try (exfalso; omega))))) | ((first | refine OpsL.same ?_ | refine OpsDL.same ?_); first | refine oK c8 rfl rfl rfl ?_ | refine oK c42 rfl rfl rfl ?_ | refine oK (c41 _) rfl rfl rfl ?_) | refine MvQ.stay ?_)
    refine again (k + 1) [] hlt (by omega) ?_
    (refine qis ?_ ?_ <;> (repeat' first | exact rfl | (refine qS ?_; constructor)))
    rw [es]; omega
  · have : k = M.length := by omega
    subst this
    rw [List.take_length]
    have e9 : (L.getD ((A.length : Nat) : Int).toNat []).getD ((B.length : Nat) : Int).toNat 0 = ((A.length : Int) + B.length - 2 * ((pI M).length : Int)) * s + sumD A B M := by
      rw [f3, hcost, hpl]
    (repeat' first | (refine Owe.same ?_; first | refine Owe.o ?_ | refine Owe.mk ?_ ?_) | (refine Fork.same ?_; (first | refine fkY ?_ | refine fkF ?_ | ((first | refine fkD ?_ ?_ | refine fkN ?_ ?_ | refine fkM ?_ ?_) <;> (intro h; try (exfalso; omega))))) | ((first | refine OpsL.same ?_ | refine OpsDL.same ?_); first | refine oK c43 rfl rfl rfl ?_) | refine MvQ.stay ?_)
    (repeat' first | (refine Owe.same ?_; first | refine Owe.o ?_ | refine Owe.mk ?_ ?_) | (refine Fork.same ?_; (first | refine fkD ?_ ?_ | refine fkN ?_ ?_ | refine fkM ?_ ?_) <;> intro h) | refine MvQ.stay ?_)
    (refine rqK rfl ?_; (repeat' first | exact rfl | (refine qS ?_; constructor)))
    rw [hcost, hpl]
end Go.Pw

set_option linter.unusedSimpArgs false
set_option linter.unusedVariables false
set_option maxHeartbeats 2000000
namespace Go.Pw
set_option maxRecDepth 2000
open Go Go.Proofs A1 A2 A3 A4
theorem C7 {n b : Int} : (R64 n ∧ 0 < b ∧ b ≤ 1000000) → PFD Try.prog 7 [vi .i64 n, vi .i64 b] (vi .i64 (n % b)) := fun ⟨hn, hb, hb'⟩ => by
  have h1 := mod_eq (n := n) hb
  have h2 := tmod_bd (n := n) hb
  refine pi1 fn7 ?_
  (repeat' first | (refine Owe.same ?_; first | refine Owe.o ?_ | refine Owe.mk ?_ ?_) | (refine Fork.same ?_; (first | refine fkD ?_ ?_ | refine fkN ?_ ?_ | refine fkM ?_ ?_) <;> (intro h; try (exfalso; omega))) | refine MvQ.stay ?_)
  · (refine rqK rfl ?_; (repeat' first | exact rfl | (refine qS ?_; constructor))); rw [← h1, if_pos h]
  · (refine rqK rfl ?_; (repeat' first | exact rfl | (refine qS ?_; constructor))); rw [← h1, if_neg h]
theorem C14 {l : List (Int × Int)} {n : Int} {j : Nat} (hj : j ≤ 1) : l.length ≤ 1000000 → PFD Try.prog 14 [.c (prs l), vi .i64 j, vi .i64 n] (vbl (l.any fun p => decide ((if j = 0 then p.1 else p.2) = n))) := fun hl => by
  obtain ⟨f, hf⟩ : ∃ f : Int × Int → Bool, f = fun p => decide ((if j = 0 then p.1 else p.2) = n) := ⟨_, rfl⟩
  rw [← hf]
  refine pi1 fn14 ?_
  (repeat' first | (refine Owe.same ?_; first | refine Owe.o ?_ | refine Owe.mk ?_ ?_) | (refine Fork.same ?_; (first | refine fkD ?_ ?_ | refine fkN ?_ ?_ | refine fkM ?_ ?_) <;> intro h) | refine MvQ.stay ?_)
  refine Sat.lp (fun k : Nat => ⟨[(7, vi .i64 k), (0, .c (prs l)), (1, vi .i64 j), (2, vi .i64 n)], [], 0⟩) (fun k => k ≤ l.length ∧ (l.take k).any f = false) (fun k => l.length - k) 0 [] ⟨Nat.zero_le _, by simp⟩ ?_ ?_
  · (refine qis ?_ ?_ <;> (repeat' first | exact rfl | (refine qS ?_; constructor)))
  rintro k ⟨hk, hn⟩
  refine Fork.dec (fun hlt => ?_) (fun hlt => ?_)
  · have hlt : k < l.length := by omega
    have et : (l.take (k + 1)).any f = f (l.getD k (0, 0)) := by rw [take_succD (0, 0) hlt, List.any_append, hn]; simp
    have hb : f (l.getD k (0, 0)) = true → l.any f = true := fun h => List.any_eq_true.2 ⟨_, getD_mem (0, 0) hlt, h⟩
    rcases (show j = 0 ∨ j = 1 by omega) with rfl | rfl
    · (repeat' first | (refine Owe.same ?_; first | refine Owe.o ?_ | refine Owe.mk ?_ ?_) | (refine Fork.same ?_; (first | refine fkD ?_ ?_ | refine fkN ?_ ?_ | refine fkM ?_ ?_) <;> (intro h; try (exfalso; omega))) | refine MvQ.stay ?_)
      · (refine rqK rfl ?_; (repeat' first | exact rfl | (refine qS ?_; constructor)))
        refine hb ?_
        rw [hf]; exact decide_eq_true h
      · refine again (k + 1) [] ⟨hlt, ?_⟩ (by omega) ?_
        · rw [et, hf]; exact decide_eq_false h
        · (refine qis ?_ ?_ <;> (repeat' first | exact rfl | (refine qS ?_; constructor)))
    · (repeat' first | (refine Owe.same ?_; first | refine Owe.o ?_ | refine Owe.mk ?_ ?_) | (refine Fork.same ?_; (first | refine fkD ?_ ?_ | refine fkN ?_ ?_ | refine fkM ?_ ?_) <;> (intro h; try (exfalso; omega))) | refine MvQ.stay ?_)
      · (refine rqK rfl ?_; (repeat' first | exact rfl | (refine qS ?_; constructor)))
        refine hb ?_
        rw [hf]; exact decide_eq_true h
      · refine again (k + 1) [] ⟨hlt, ?_⟩ (by omega) ?_
        · rw [et, hf]; exact decide_eq_false h
        · (refine qis ?_ ?_ <;> (repeat' first | exact rfl | (refine qS ?_; constructor)))
  · have : k = l.length := by omega
    subst this
    rw [List.take_length] at hn
    (repeat' first | (refine Owe.same ?_; first | refine Owe.o ?_ | refine Owe.mk ?_ ?_) | (refine Fork.same ?_; (first | refine fkD ?_ ?_ | refine fkN ?_ ?_ | refine fkM ?_ ?_) <;> intro h) | refine MvQ.stay ?_)
    (refine rqK rfl ?_; (repeat' first | exact rfl | (refine qS ?_; constructor)))
    exact hn
/-- What PairsErr says of pairs that ascend, lie in both surveys, and have one kind. -/
theorem C11 {A B : List Ft} {M : List (Nat × Nat)} : (PrOk A B M ∧ A.length ≤ 1000000 ∧ B.length ≤ 1000000 ∧ M.length ≤ 1000000) → PFD Try.prog 11 [.c (fts A), .c (fts B), .c (prs (pI M))] (vi .i64 0) := fun ⟨hok, ha, hb, hm⟩ => by
  have hpl := pI_len (l := M)
  refine pi1 fn11 ?_
  (repeat' first | (refine Owe.same ?_; first | refine Owe.o ?_ | refine Owe.mk ?_ ?_) | (refine Fork.same ?_; (first | refine fkD ?_ ?_ | refine fkN ?_ ?_ | refine fkM ?_ ?_) <;> intro h) | refine MvQ.stay ?_)
  refine Sat.lp (fun k : Nat => ⟨[(7, vi .i64 k), (0, .c (fts A)), (1, .c (fts B)), (2, .c (prs (pI M)))], [], 0⟩) (fun k => k ≤ M.length) (fun k => M.length - k) 0 [] (Nat.zero_le _) ?_ ?_
  · (refine qis ?_ ?_ <;> (repeat' first | exact rfl | (refine qS ?_; constructor)))
  intro k hk
  refine Fork.dec (fun hlt => ?_) (fun hlt => ?_)
  · have hlt : k < M.length := by omega
    obtain ⟨r1', r2', r3⟩ := hok.rng _ (getD_mem (0, 0) hlt)
    have ep : (pI M).getD (k : Int).toNat (0, 0) = (((M.getD k (0, 0)).1 : Int), ((M.getD k (0, 0)).2 : Int)) := pI_at hlt
    have e1 : ((pI M).getD (k : Int).toNat (0, 0)).1 = (M.getD k (0, 0)).1 := by rw [ep]
    have e2 : ((pI M).getD (k : Int).toNat (0, 0)).2 = (M.getD k (0, 0)).2 := by rw [ep]
    have c6a := C6 (n := ((pI M).getD (k : Int).toNat (0, 0)).1) (lo := 0) (hi := (A.length : Int) - 1)
    have c6b := C6 (n := ((pI M).getD (k : Int).toNat (0, 0)).2) (lo := 0) (hi := (B.length : Int) - 1)
    rw [decide_eq_true (by rw [e1]; omega)] at c6a
    rw [decide_eq_true (by rw [e2]; omega)] at c6b
    have e3 : (A.getD ((pI M).getD (k : Int).toNat (0, 0)).1.toNat ft0).2.1 = (B.getD ((pI M).getD (k : Int).toNat (0, 0)).2.toNat ft0).2.1 := by
      rw [e1, e2]; exact r3
    have b1 : 0 ≤ ((pI M).getD (k : Int).toNat (0, 0)).1 ∧ ((pI M).getD (k : Int).toNat (0, 0)).1 < A.length := by rw [e1]; omega
    have b2 : 0 ≤ ((pI M).getD (k : Int).toNat (0, 0)).2 ∧ ((pI M).getD (k : Int).toNat (0, 0)).2 < B.length := by rw [e2]; omega
    rcases k with _ | k
    · (repeat' first | (refine Owe.same ?_; first | refine Owe.o ?_ | refine Owe.mk ?_ ?_) | (refine Fork.same ?_; (first | refine fkY ?_ | refine fkF ?_ | ((first | refine fkD ?_ ?_ | refine fkN ?_ ?_ | refine fkM ?_ ?_) <;> (intro h; try (exfalso; omega))))) | ((first | refine OpsL.same ?_ | refine OpsDL.same ?_); first | refine oK c6a rfl rfl rfl ?_ | refine oK c6b rfl rfl rfl ?_) | refine MvQ.stay ?_)
      refine again 1 [] hlt (by omega) ?_
      (refine qis ?_ ?_ <;> (repeat' first | exact rfl | (refine qS ?_; constructor)))
    · have hup := List.pairwise_iff_getElem.1 hok.asc k (k + 1) (by omega) hlt (by omega)
      have d1 : ((pI M).getD (((k + 1 : Nat) : Int) - 1).toNat (0, 0)).1 < ((pI M).getD ((k + 1 : Nat) : Int).toNat (0, 0)).1 ∧ ((pI M).getD (((k + 1 : Nat) : Int) - 1).toNat (0, 0)).2 < ((pI M).getD ((k + 1 : Nat) : Int).toNat (0, 0)).2 := by
        rw [e1, e2, show (((k + 1 : Nat) : Int) - 1).toNat = k by omega, pI_at (by omega)]
        rw [List.getD_eq_getElem?_getD, List.getElem?_eq_getElem (by omega : k < M.length), List.getD_eq_getElem?_getD, List.getElem?_eq_getElem hlt]
        simp only [Option.getD_some]; omega
      (repeat' first | (refine Owe.same ?_; first | refine Owe.o ?_ | refine Owe.mk ?_ ?_) | (refine Fork.same ?_; (first | refine fkY ?_ | refine fkF ?_ | ((first | refine fkD ?_ ?_ | refine fkN ?_ ?_ | refine fkM ?_ ?_) <;> (intro h; try (exfalso; omega))))) | ((first | refine OpsL.same ?_ | refine OpsDL.same ?_); first | refine oK c6a rfl rfl rfl ?_ | refine oK c6b rfl rfl rfl ?_) | refine MvQ.stay ?_)
      refine again (k + 2) [] hlt (by omega) ?_
      (refine qis ?_ ?_ <;> (repeat' first | exact rfl | (refine qS ?_; constructor)))
  · have : k = M.length := by omega
    subst this
    (repeat' first | (refine Owe.same ?_; first | refine Owe.o ?_ | refine Owe.mk ?_ ?_) | (refine Fork.same ?_; (first | refine fkD ?_ ?_ | refine fkN ?_ ?_ | refine fkM ?_ ?_) <;> intro h) | refine MvQ.stay ?_)
    (refine rqK rfl ?_; (repeat' first | exact rfl | (refine qS ?_; constructor)))
/-- A change: its kind, both indexes, by how much. -/
abbrev Ch := Int × Int × Int × Int
abbrev ch0 : Ch := (0, 0, 0, 0)
abbrev cD (c : Ch) : List D := [dI c.1, dI c.2.1, dI c.2.2.1, dI c.2.2.2]
abbrev chs (l : List Ch) : C := slv 4 cD ch0 l
def tkP (l : List (Nat × Nat)) : List (Int × Int) := l.map fun p => ((p.2 : Int), 1)
def chA (A B : List Ft) (es : List (Int × Int)) (i : Nat) : List Ch := if (mlook es i).isSome = true then
    (if (A.getD i ft0).2.2.2 < (B.getD ((mlook es i).getD 0).toNat ft0).2.2.1 then [(2, (i : Int), (mlook es i).getD 0, (B.getD ((mlook es i).getD 0).toNat ft0).2.2.1 - (A.getD i ft0).2.2.2)]
    else if (B.getD ((mlook es i).getD 0).toNat ft0).2.2.2 < (A.getD i ft0).2.2.1 then [(3, (i : Int), (mlook es i).getD 0, (A.getD i ft0).2.2.1 - (B.getD ((mlook es i).getD 0).toNat ft0).2.2.2)] else [])
  else [(1, (i : Int), -1, 0)]
def chB (es : List (Int × Int)) (k : Nat) : List Ch := if (mlook es k).getD 0 = 0 then [(0, -1, (k : Int), 0)] else []
def chX (A B : List Ft) (M : List (Nat × Nat)) (i k : Nat) : List Ch := (List.range i).flatMap (chA A B (pI M)) ++ (List.range k).flatMap (chB (tkP M))
theorem chA_len {A B : List Ft} {es : List (Int × Int)} {i : Nat} : (chA A B es i).length ≤ 1 := by
  rw [chA]; split
  · split
    · exact Nat.le_refl _
    · split
      · exact Nat.le_refl _
      · exact Nat.zero_le _
  · exact Nat.le_refl _
theorem chB_len {es : List (Int × Int)} {i : Nat} : (chB es i).length ≤ 1 := by
  rw [chB]; split <;> simp
theorem fm_len {α : Type} {f : Nat → List α} (h : ∀ i, (f i).length ≤ 1) : ∀ n, ((List.range n).flatMap f).length ≤ n
  | 0 => by simp
  | n + 1 => by
    have h1 := fm_len h n
    have h2 := h n
    rw [List.range_succ, List.flatMap_append, List.length_append, List.flatMap_singleton]; omega
theorem chX_len {A B : List Ft} {M : List (Nat × Nat)} {i k : Nat} : (chX A B M i k).length ≤ i + k := by
  rw [chX, List.length_append]
  have := fm_len (f := chA A B (pI M)) (fun _ => chA_len) i
  have := fm_len (f := chB (tkP M)) (fun _ => chB_len) k
  omega
theorem chX_a {A B : List Ft} {M : List (Nat × Nat)} {i : Nat} : chX A B M (i + 1) 0 = chX A B M i 0 ++ chA A B (pI M) i := by
  simp [chX, List.range_succ]
theorem chX_b {A B : List Ft} {M : List (Nat × Nat)} {i k : Nat} : chX A B M i (k + 1) = chX A B M i k ++ chB (tkP M) k := by
  simp [chX, List.range_succ]
theorem mlook_in {es : List (Int × Int)} {n k : Int} (h : mlook es n = some k) : (n, k) ∈ es := by
  induction es with
  | nil => cases h
  | cons p r ih =>
    obtain ⟨a, y⟩ := p
    rw [mlook] at h
    split at h
    · rename_i ha; cases h; subst ha; exact List.mem_cons_self ..
    · exact List.mem_cons_of_mem _ (ih h)
/-- What the two maps hold behind so many pairs. -/
theorem mp_a {A B : List Ft} {M : List (Nat × Nat)} (h : PrOk A B M) {k : Nat} (hk : k < M.length) : mput (pI (M.take k)) ((M.getD k (0, 0)).1 : Int) ((M.getD k (0, 0)).2 : Int) = pI (M.take (k + 1)) := by
  rw [mput_new, take_succD (0, 0) hk, pI_app]
  · rfl
  · intro i a y hi
    rw [pI, List.getElem?_map] at hi
    have hik : i < k := by
      apply Nat.lt_of_not_le; intro hc
      rw [List.getElem?_eq_none (by rw [List.length_take]; omega)] at hi; cases hi
    rw [List.getElem?_take_of_lt hik, List.getElem?_eq_getElem (by omega)] at hi
    cases hi
    have := List.pairwise_iff_getElem.1 h.asc i k (by omega) hk hik
    rw [List.getD_eq_getElem?_getD, List.getElem?_eq_getElem hk]
    simp only [Option.getD_some]; omega
theorem mp_b {A B : List Ft} {M : List (Nat × Nat)} (h : PrOk A B M) {k : Nat} (hk : k < M.length) : mput (tkP (M.take k)) ((M.getD k (0, 0)).2 : Int) 1 = tkP (M.take (k + 1)) := by
  rw [mput_new, take_succD (0, 0) hk, tkP, tkP, List.map_append]
  · rfl
  · intro i a y hi
    rw [tkP, List.getElem?_map] at hi
    have hik : i < k := by
      apply Nat.lt_of_not_le; intro hc
      rw [List.getElem?_eq_none (by rw [List.length_take]; omega)] at hi; cases hi
    rw [List.getElem?_take_of_lt hik, List.getElem?_eq_getElem (by omega)] at hi
    cases hi
    have := List.pairwise_iff_getElem.1 h.asc i k (by omega) hk hik
    rw [List.getD_eq_getElem?_getD, List.getElem?_eq_getElem hk]
    simp only [Option.getD_some]; omega
theorem C10 {A B : List Ft} {s : Int} : (FtsOk A ∧ FtsOk B ∧ 0 ≤ s ∧ s ≤ 100000) → PFD Try.prog 10 [.c (fts A), .c (fts B), vi .i64 s] (.tup [.c (chs (chX A B (mtL s A B) A.length B.length)), vi .i64 0]) := fun h => by
  have hS := h.1.sv h.2.1 h.2.2
  have ha := hS.a
  have hb := hS.b
  have c33 := C33 h
  have c34 := C34 hS
  have hok := mtP_ok (s := s) A.length A B
  have hml := mtP_len (s := s) A.length A B
  show PFD Try.prog 10 _ (.tup [.c (chs (chX A B (mtP s A.length A B) A.length B.length)), _])
  generalize mtP s A.length A B = M at *
  have hpl := pI_len (l := M)
  refine pi2 fn10 ?_
  (repeat' first | (refine Owe.same ?_; first | refine Owe.o ?_ | refine Owe.mk ?_ ?_) | (refine Fork.same ?_; (first | refine fkY ?_ | refine fkF ?_ | ((first | refine fkD ?_ ?_ | refine fkN ?_ ?_ | refine fkM ?_ ?_) <;> intro h))) | ((first | refine OpsL.same ?_ | refine OpsDL.same ?_); first | refine oK c33 rfl rfl rfl ?_ | refine oK c34 rfl rfl rfl ?_) | refine MvQ.stay ?_)
  refine Sat.lp (fun k : Nat => ⟨[(36, vi .i64 k), (35, vi .i64 (pI M).length), (34, .c (prs (pI M))), (10, .c (.mp 0)), (11, .c (.mp 1)), (0, .c (fts A)), (1, .c (fts B))], [(0, .mp 1 (pI (M.take k))), (1, .mp 2 (tkP (M.take k)))], 2⟩)
    (fun k => k ≤ M.length) (fun k => M.length - k) 0 [1, 2] (Nat.zero_le _) ?_ ?_
  · (refine qis ?_ ?_ <;> (repeat' first | exact rfl | (refine qS ?_; constructor)))
  intro k hk
  refine Fork.dec (fun hlt => ?_) (fun hlt => ?_)
  · have hlt : k < M.length := by omega
    have ep : (pI M).getD (k : Int).toNat (0, 0) = (((M.getD k (0, 0)).1 : Int), ((M.getD k (0, 0)).2 : Int)) := pI_at hlt
    have e1 : ((pI M).getD (k : Int).toNat (0, 0)).1 = (M.getD k (0, 0)).1 := by rw [ep]
    have e2 : ((pI M).getD (k : Int).toNat (0, 0)).2 = (M.getD k (0, 0)).2 := by rw [ep]
    (repeat' first | (refine Owe.same ?_; first | refine Owe.o ?_ | refine Owe.mk ?_ ?_) | (refine Fork.same ?_; (first | refine fkD ?_ ?_ | refine fkN ?_ ?_ | refine fkM ?_ ?_) <;> (intro h; try (exfalso; omega))) | refine MvQ.stay ?_)
    refine again (k + 1) [0, 1] hlt (by omega) ?_
    (refine qis ?_ ?_ <;> (repeat' first | exact rfl | (refine qS ?_; constructor)))
    · rw [e1, e2]; exact mp_a hok hlt
    · rw [e2]; exact mp_b hok hlt
  · have : k = M.length := by omega
    subst this
    rw [List.take_length]
    (repeat' first | (refine Owe.same ?_; first | refine Owe.o ?_ | refine Owe.mk ?_ ?_) | (refine Fork.same ?_; (first | refine fkD ?_ ?_ | refine fkN ?_ ?_ | refine fkM ?_ ?_) <;> (intro h; try (exfalso; omega))) | refine MvQ.stay ?_)
    refine Sat.nilS 14 50 4 (fun i => cD (([] : List Ch).getD i ch0)) rfl ?_
    refine Sat.lp (fun i : Nat => ⟨[(51, vi .i64 i), (50, vi .i64 A.length), (49, .c (fts A)), (14, .c (.ms 2 (chX A B M i 0).length)), (10, .c (.mp 0)), (11, .c (.mp 1)), (1, .c (fts B))], [(0, .mp 1 (pI M)), (1, .mp 2 (tkP M)), (2, rowv 50 4 cD ch0 (chX A B M i 0))], 3⟩)
      (fun i => i ≤ A.length) (fun i => A.length - i) 0 [0, 1, 2] (Nat.zero_le _) ?_ ?_
    · (refine qis ?_ ?_ <;> (repeat' first | exact rfl | (refine qS ?_; constructor)))
    intro i hi
    have hl := chX_len (A := A) (B := B) (M := M) (i := i) (k := 0)
    refine Fork.dec (fun hlt => ?_) (fun hlt => ?_)
    · have hlt : i < A.length := by omega
      have eX := chX_a (A := A) (B := B) (M := M) (i := i)
      rw [chA] at eX
      obtain ⟨⟨ha1, ha2⟩, ⟨hs1, hs2⟩, hk1⟩ := h.1.ok i hlt
      by_cases hm : (mlook (pI M) i).isSome = true
      · rw [if_pos hm] at eX
        obtain ⟨k, hm'⟩ := Option.isSome_iff_exists.1 hm
        have gd : (mlook (pI M) i).getD 0 = k := by rw [hm']; rfl
        have hin := mlook_in hm'
        obtain ⟨p, hp, ep⟩ := List.mem_map.1 hin
        have hrg := hok.rng p hp
        injection ep with ep1 ep2
        have hk2 : 0 ≤ (mlook (pI M) i).getD 0 ∧ (mlook (pI M) i).getD 0 < B.length := by rw [gd]; omega
        obtain ⟨⟨hb1, hb2⟩, ⟨ht1, ht2⟩, hk3⟩ := h.2.1.ok ((mlook (pI M) i).getD 0).toNat (by omega)
        (repeat' first | (refine Owe.same ?_; first | refine Owe.o ?_ | refine Owe.mk ?_ ?_) | (refine Fork.same ?_; (first | refine fkD ?_ ?_ | refine fkN ?_ ?_ | refine fkM ?_ ?_) <;> intro h) | refine MvQ.stay ?_)
        · rw [hm] at h; cases h
        · rw [if_pos (show (A.getD i ft0).2.2.2 < (B.getD ((mlook (pI M) i).getD 0).toNat ft0).2.2.1 from h)] at eX
          refine again (i + 1) [0, 1, 5] hlt (by omega) ?_
          (refine qis ?_ ?_ <;> (repeat' first | exact rfl | (refine qS ?_; constructor)))
          · rw [eX, List.length_append]; rfl
          · exact ⟨_, rfl, eX⟩
        · rename_i hx _
          rw [if_neg (show ¬ (A.getD i ft0).2.2.2 < (B.getD ((mlook (pI M) i).getD 0).toNat ft0).2.2.1 by assumption), if_pos (show (B.getD ((mlook (pI M) i).getD 0).toNat ft0).2.2.2 < (A.getD i ft0).2.2.1 from h)] at eX
          refine again (i + 1) [0, 1, 5] hlt (by omega) ?_
          (refine qis ?_ ?_ <;> (repeat' first | exact rfl | (refine qS ?_; constructor)))
          · rw [eX, List.length_append]; rfl
          · exact ⟨_, rfl, eX⟩
        · rw [if_neg (show ¬ (A.getD i ft0).2.2.2 < (B.getD ((mlook (pI M) i).getD 0).toNat ft0).2.2.1 by assumption), if_neg (show ¬ (B.getD ((mlook (pI M) i).getD 0).toNat ft0).2.2.2 < (A.getD i ft0).2.2.1 from h), List.append_nil] at eX
          refine again (i + 1) [0, 1, 2] hlt (by omega) ?_
          rw [eX]
          (refine qis ?_ ?_ <;> (repeat' first | exact rfl | (refine qS ?_; constructor)))
      · have hm0 : (mlook (pI M) i).isSome = false := by simpa using hm
        rw [if_neg hm] at eX
        (repeat' first | (refine Owe.same ?_; first | refine Owe.o ?_ | refine Owe.mk ?_ ?_) | (refine Fork.same ?_; (first | refine fkD ?_ ?_ | refine fkN ?_ ?_ | refine fkM ?_ ?_) <;> intro h) | refine MvQ.stay ?_)
        · refine again (i + 1) [0, 1, 4] hlt (by omega) ?_
          (refine qis ?_ ?_ <;> (repeat' first | exact rfl | (refine qS ?_; constructor)))
          · rw [eX, List.length_append]; rfl
          · exact ⟨_, rfl, eX⟩
        all_goals (exfalso; simp [hm0] at *; done)
    · have : i = A.length := by omega
      subst this
      (repeat' first | (refine Owe.same ?_; first | refine Owe.o ?_ | refine Owe.mk ?_ ?_) | (refine Fork.same ?_; (first | refine fkD ?_ ?_ | refine fkN ?_ ?_ | refine fkM ?_ ?_) <;> (intro h; try (exfalso; omega))) | refine MvQ.stay ?_)
      refine Sat.lp (fun k : Nat => ⟨[(115, vi .i64 k), (114, vi .i64 B.length), (14, .c (.ms 1 (chX A B M A.length k).length)), (11, .c (.mp 0))], [(0, .mp 2 (tkP M)), (1, rowv 50 4 cD ch0 (chX A B M A.length k))], 2⟩)
        (fun k => k ≤ B.length) (fun k => B.length - k) 0 [1, 2] (Nat.zero_le _) ?_ ?_
      · (refine qis ?_ ?_ <;> (repeat' first | exact rfl | (refine qS ?_; constructor)))
      intro k hk
      have hl := chX_len (A := A) (B := B) (M := M) (i := A.length) (k := k)
      have eX := chX_b (A := A) (B := B) (M := M) (i := A.length) (k := k)
      rw [chB] at eX
      refine Fork.dec (fun hlk => ?_) (fun hlk => ?_)
      · have hlk : k < B.length := by omega
        (repeat' first | (refine Owe.same ?_; first | refine Owe.o ?_ | refine Owe.mk ?_ ?_) | (refine Fork.same ?_; (first | refine fkD ?_ ?_ | refine fkN ?_ ?_ | refine fkM ?_ ?_) <;> intro h) | refine MvQ.stay ?_)
        · rw [if_pos (by simpa using h)] at eX
          refine again (k + 1) [0, 2] hlk (by omega) ?_
          (refine qis ?_ ?_ <;> (repeat' first | exact rfl | (refine qS ?_; constructor)))
          · rw [eX, List.length_append]; rfl
          · exact ⟨_, rfl, eX⟩
        · rw [if_neg h, List.append_nil] at eX
          refine again (k + 1) [0, 1] hlk (by omega) ?_
          rw [eX]
          (refine qis ?_ ?_ <;> (repeat' first | exact rfl | (refine qS ?_; constructor)))
      · have : k = B.length := by omega
        subst this
        (repeat' first | (refine Owe.same ?_; first | refine Owe.o ?_ | refine Owe.mk ?_ ?_) | (refine Fork.same ?_; (first | refine fkD ?_ ?_ | refine fkN ?_ ?_ | refine fkM ?_ ?_) <;> (intro h; try (exfalso; omega))) | refine MvQ.stay ?_)
        refine rqF 0 _ rfl rfl rfl ?_; (repeat' first | exact rfl | (refine qS ?_; constructor))
end Go.Pw

set_option linter.unusedVariables false
namespace Go.Pw
open Go Go.RowKit
section
variable {P : Program} {N base : Nat}
theorem nmAt_nil (base : Nat) : nmAt base [] = id := by
  funext i
  unfold nmAt
  split <;> rfl
/-- What a function does to the store that it is given, from its code. -/
theorem CallD.of [m : Mix P] {f : FuncId} {lc : LCode} {rl : List RL} {args vs : List V} {σ σ' : Store} {nx nx' : Nat} (hf : FnOk P f N lc rl) (hN : Nat.ble args.length N = true) (hle : Nat.ble nx nx' = true) (hin : Is nx ⟨argEnv 0 args, σ, nx⟩ ⟨argEnv 0 args, σ, nx⟩ [])
    (h : wp P N nx lc ⟨argEnv 0 args, σ, nx⟩ (RetQ nx rl vs σ' nx')) : CallD P f args σ nx (retV vs) σ' nx' := by
  obtain ⟨hent, own, fn, h1, h2⟩ := hf
  have := hin.wk
  rw [nmAt_nil] at this
  exact CallD.enter h1 hent h2 (Nat.le_of_ble_eq_true hN) (Nat.le_of_ble_eq_true hle) this (Sat.of h)
theorem RetQ.is {nx nx' : Nat} {rl : List RL} {vs : List V} {σ' : Store} {e : Exit} {env : List (Nat × V)} (hres : resAll env σ' rl = some vs) (he : e = .normal ∨ e = .ret := by first | exact .inr rfl | exact .inl rfl) : RetQ nx rl vs σ' nx' e ⟨env, σ', nx'⟩ :=
  ⟨he, vs, hres, rfl, Mv.refl _ _⟩
end
end Go.Pw

set_option linter.unusedVariables false
namespace Go.Pw
open Go Go.RowKit
theorem RepL.one {Γ : Cx} {w : World} {a : V} {us : Array Value} (h : RepL Γ w [a] us) : ∃ u, us = #[u] ∧ RepV Γ w a u := by
  obtain ⟨us⟩ := us
  have h1 := h.1
  match us, h1 with
  | [u], _ => exact ⟨u, rfl, h.2 0 _ _ rfl rfl⟩
/-- What the memory was at the call, in the memory of now. -/
theorem LayOk.cell {I : Nat → Prop} {w : World} (h : LayOk I w) : ∃ W0, LaidW W0 ∧ (∀ a v, W0.cell? a = some v → w.cell? a = some v) ∧ ∀ k, k < W0.heap.size → w.heap[k]? = W0.heap[k]? := by
  obtain ⟨W0, h1, h2⟩ := h
  refine ⟨W0, h1, fun a v hv => ?_, fun k hk => (h2 k hk).2⟩
  have hb := World.block_lt_of_cell? _ _ hv
  have e := (h2 _ hb).2
  rw [← hv]
  simp only [World.cell?, e]
end Go.Pw

set_option linter.unusedVariables false
namespace Go.Pw
open Go Go.RowKit
section
variable {P : Program} {N base : Nat}
def rdS (P : Program) (N base : Nat) (x : LCode) (Q : Exit → St → Prop) : Nat → Exit → St → Prop
  | 0, .normal, _ => False
  | m + 1, .normal, st => Sat P N base x st (rdS P N base x Q m)
  | _, e, st => Q e st
theorem Sat.roundsN {x : LCode} {Q : Exit → St → Prop} (m : Nat) {st : St} (h : Sat P N base x st (rdS P N base x Q m)) : Sat P N base (.loop x) st Q := by
  intro ro n B0 own code hro hl Γ0 Γ w0 w σ0 a hc hext
  obtain ⟨c1, rfl, h1⟩ := low_loop hl
  have key : ∀ m (st : St) (Γ : Cx) (w : World) (a : Act), Conc N B0 base Γ w st a → Ext base Γ0 w0 σ0 Γ w st.σ → Sat P N base x st (rdS P N base x Q m) → Code.roundsIn (FW ro) n P c1 (Post N B0 base Γ0 w0 σ0 Q) (m + 1) a w := by
    intro m
    induction m with
    | zero =>
      intro st Γ w a hc hext h
      rw [roundsIn_succ]
      refine wpIn_mono (h ro n B0 own c1 hro h1 Γ0 Γ w0 w σ0 a hc hext) (fun e a' w' ⟨Γ', st', h3, h4, h5⟩ => ?_)
      cases e with
      | normal => exact h5.elim
      | _ => exact ⟨Γ', st', h3, h4, h5⟩
    | succ m ih =>
      intro st Γ w a hc hext h
      rw [roundsIn_succ]
      refine wpIn_mono (h ro n B0 own c1 hro h1 Γ0 Γ w0 w σ0 a hc hext) (fun e a' w' ⟨Γ', st', h3, h4, h5⟩ => ?_)
      cases e with
      | normal => exact ih st' Γ' w' a' h3 h4 h5
      | _ => exact ⟨Γ', st', h3, h4, h5⟩
  exact wpIn_loop_rounds (m + 1) (key m st Γ w a hc hext h)
def rdQ (P : Program) (N base : Nat) [Mix P] (x : LCode) (Q : Exit → St → Prop) : Nat → Exit → St → Prop
  | 0, .normal, _ => False
  | m + 1, .normal, st => wp P N base x st (rdQ P N base x Q m)
  | _, e, st => Q e st
/-- The loop ends within so many rounds and one. -/
theorem Sat.rd [Mix P] {x : LCode} {Q : Exit → St → Prop} (m : Nat) {st : St} (h : wp P N base x st (rdQ P N base x Q m)) : SatL P N base (.loop x) st Q := by
  have key : ∀ m st, wp P N base x st (rdQ P N base x Q m) → Sat P N base x.strip st (rdS P N base x.strip Q m) := by
    intro m
    induction m with
    | zero =>
      intro st h
      refine (Sat.of h).mono fun e st' h => ?_
      cases e with
      | normal => exact h
      | _ => exact h
    | succ m ih =>
      intro st h
      refine (Sat.of h).mono fun e st' h => ?_
      cases e with
      | normal => exact ih st' h
      | _ => exact h
  exact ⟨Sat.roundsN m (key m st h)⟩
end
end Go.Pw

set_option linter.unusedVariables false
set_option maxHeartbeats 2000000
set_option maxRecDepth 100000
namespace Go.Pw
open Go Go.Proofs
/-- moonpool/survey.spans -/
def lc73u : LCode :=
  (.seq (.region [⟨some 3, .box (.tmp 0), none⟩, ⟨some 4, .box (.tmp 1), none⟩, ⟨some 5, .box (.tmp 2), none⟩, ⟨some 6, .mv (.const (.slice none 0 0)), none⟩, ⟨some 7, .mv (.const
    (.int .i64 0)), none⟩]) (.seq (.seq (.region [⟨some 9, .load false 1 (.tmp 3), none⟩, ⟨some 10, .load false 1 (.tmp 4), none⟩, ⟨some 11, .call (.func 98) [(.tmp 9), (.tmp 10)],
    none⟩, ⟨some 8, .mv (.tmp 11), none⟩]) (.seq (.region [⟨some 12, .mv (.tmp 8), none⟩, ⟨some 13, .bin .neq (.tmp 12) (.const (.int .i64 0)), none⟩]) (.cond (.tmp 13) (.seq
    (.region [⟨some 14, .mv (.tmp 8), none⟩, ⟨some 6, .mv (.const (.slice none 0 0)), none⟩, ⟨some 7, .mv (.tmp 14), none⟩]) .ret) .skip))) (.seq (.region [⟨some 15, .load false 1
    (.tmp 3), none⟩, ⟨some 16, .len (.tmp 15), none⟩, ⟨some 17, .bin .sub (.tmp 16) (.const (.int .i64 1)), none⟩, ⟨some 18, .mkfn 100 [(.tmp 5), (.tmp 3), (.tmp 4)], none⟩, ⟨some
    19, .call (.func 99) [(.const (.int .i64 0)), (.tmp 17), (.tmp 18)], none⟩, ⟨some 6, .mv (.tmp 19), none⟩, ⟨some 7, .mv (.const (.int .i64 0)), none⟩]) .ret)))
theorem low73u : lowF Try.prog [] Try.f73 = some (20, lc73u.strip, [.tmp 6, .tmp 7]) := by kernel_rfl
theorem fn73u : FnOk Try.prog 73 20 lc73u [.tmp 6, .tmp 7] := ⟨Try.call73, [], _, Try.func73, low73u⟩
end Go.Pw

set_option linter.unusedSimpArgs false
set_option linter.unusedVariables false
set_option maxHeartbeats 2000000
namespace Go.Pw
set_option maxRecDepth 2000
open Go Go.Proofs A1 A2 A3 A4
abbrev Sn := Int × (Int × Int) × (Int × Int)
abbrev sn0 : Sn := (0, (0, 0), (0, 0))
abbrev snD (f : Sn) : List D := [dI f.1, dI f.2.1.1, dI f.2.1.2, dI f.2.2.1, dI f.2.2.2]
abbrev snv (f : Sn) : V := .agg [int f.1, int f.2.1.1, int f.2.1.2, int f.2.2.1, int f.2.2.2]
abbrev sns (l : List Sn) : C := slv 5 snD sn0 l
abbrev spv (p : Int × Int) : V := .agg [int p.1, int p.2]
theorem C118 {p q : Int × Int} : (((-100000 ≤ p.1 ∧ p.1 ≤ 100000) ∧ -100000 ≤ p.2 ∧ p.2 ≤ 100000) ∧ (-100000 ≤ q.1 ∧ q.1 ≤ 100000) ∧ -100000 ≤ q.2 ∧ q.2 ≤ 100000) → PFD Try.prog 118 [spv p, spv q] (spv (p.1 - q.2, p.2 - q.1)) := fun h => by
  refine pi1 fn118 ?_
  (repeat' first | (refine Owe.same ?_; first | refine Owe.o ?_ | refine Owe.mk ?_ ?_) | (refine Fork.same ?_; (first | refine fkD ?_ ?_ | refine fkN ?_ ?_ | refine fkM ?_ ?_) <;> intro h) | refine MvQ.stay ?_)
  (refine rqK rfl ?_; (repeat' first | exact rfl | (refine qS ?_; constructor)))
theorem C74 {p : Int × Int} : PFD Try.prog 74 [spv p] (vi .i64 p.1) := by
  refine pi1 fn74 ?_
  (repeat' first | (refine Owe.same ?_; first | refine Owe.o ?_ | refine Owe.mk ?_ ?_) | (refine Fork.same ?_; (first | refine fkD ?_ ?_ | refine fkN ?_ ?_ | refine fkM ?_ ?_) <;> intro h) | refine MvQ.stay ?_)
  (refine rqK rfl ?_; (repeat' first | exact rfl | (refine qS ?_; constructor)))
theorem C144 {n m : Int} : (0 ≤ m ∧ m ≤ 100000) → PFD Try.prog 144 [vi .i64 n, vi .i64 m] (vbl (decide (-m ≤ n ∧ n ≤ m))) := fun h => by
  refine pi1 fn144 ?_
  (repeat' first | (refine Owe.same ?_; first | refine Owe.o ?_ | refine Owe.mk ?_ ?_) | (refine Fork.same ?_; (first | refine fkD ?_ ?_ | refine fkN ?_ ?_ | refine fkM ?_ ?_) <;> intro h) | ((first | refine OpsL.same ?_ | refine OpsDL.same ?_); first | refine pK C76 rfl rfl ?_) | refine MvQ.stay ?_)
  (refine rqK rfl ?_; (repeat' first | exact rfl | (refine qS ?_; constructor)))
theorem C143 {p : Int × Int} {m : Int} : (0 ≤ m ∧ m ≤ 100000) → PFD Try.prog 143 [spv p, vi .i64 m] (vbl (decide ((-m ≤ p.1 ∧ p.1 ≤ m) ∧ -m ≤ p.2 ∧ p.2 ≤ m))) := fun hm => by
  refine pi1 fn143 ?_
  (repeat' first | (refine Owe.same ?_; first | refine Owe.o ?_ | refine Owe.mk ?_ ?_) | (refine Fork.same ?_; (first | refine fkD ?_ ?_ | refine fkN ?_ ?_ | refine fkM ?_ ?_) <;> intro h) | ((first | refine OpsL.same ?_ | refine OpsDL.same ?_); first | refine pK (C144 hm) rfl rfl ?_) | refine MvQ.stay ?_)
  · (refine rqK rfl ?_; (repeat' first | exact rfl | (refine qS ?_; constructor))); exact decide_eq_decide.2 ⟨fun hh => ⟨h, hh⟩, fun hh => hh.2⟩
  · (refine rqK rfl ?_; (repeat' first | exact rfl | (refine qS ?_; constructor))); rw [decide_eq_false]; exact fun hh => h hh.1
theorem C142 {n : Int} : PFD Try.prog 142 [vi .i64 n] (vbl (decide (0 ≤ n ∧ n ≤ 100000))) := by
  refine pi1 fn142 ?_
  (repeat' first | (refine Owe.same ?_; first | refine Owe.o ?_ | refine Owe.mk ?_ ?_) | (refine Fork.same ?_; (first | refine fkD ?_ ?_ | refine fkN ?_ ?_ | refine fkM ?_ ?_) <;> intro h) | ((first | refine OpsL.same ?_ | refine OpsDL.same ?_); first | refine pK C76 rfl rfl ?_) | refine MvQ.stay ?_)
  (refine rqK rfl ?_; (repeat' first | exact rfl | (refine qS ?_; constructor)))
/-- A valid station. -/
structure SnOk (f : Sn) : Prop where
  a : 0 ≤ f.1 ∧ f.1 ≤ 100000
  t : (-10000 ≤ f.2.1.1 ∧ f.2.1.1 ≤ 10000) ∧ -10000 ≤ f.2.1.2 ∧ f.2.1.2 ≤ 10000
  b : (-10000 ≤ f.2.2.1 ∧ f.2.2.1 ≤ 10000) ∧ -10000 ≤ f.2.2.2 ∧ f.2.2.2 ≤ 10000
  u : f.2.1.1 ≤ f.2.1.2
  v : f.2.2.1 ≤ f.2.2.2
theorem C141 {f : Sn} : SnOk f → PFD Try.prog 141 [snv f] (vi .i64 0) := fun hf => by
  have c1 := C142 (n := f.1)
  have c2 := C143 (p := f.2.1) (m := 10000) (by decide)
  have c3 := C143 (p := f.2.2) (m := 10000) (by decide)
  have c4 := C122 (p := f.2.1)
  have c5 := C122 (p := f.2.2)
  rw [decide_eq_true hf.a] at c1
  rw [decide_eq_true hf.t] at c2
  rw [decide_eq_true hf.b] at c3
  rw [decide_eq_true hf.u] at c4
  rw [decide_eq_true hf.v] at c5
  have c6 : ∀ e, PFD Try.prog 41 [vbl true, vi .i64 e] (vi .i64 0) := fun e => C41
  have c8 : PFD Try.prog 39 [.c (ints [0, 0])] (vi .i64 0) := C39 (l := [0, 0]) (by decide)
  refine pi1 fn141 ?_
  (repeat' first | (refine Owe.same ?_; first | refine Owe.o ?_ | refine Owe.mk ?_ ?_) | (refine Fork.same ?_; (first | refine fkY ?_ | refine fkF ?_ | ((first | refine fkD ?_ ?_ | refine fkN ?_ ?_ | refine fkM ?_ ?_) <;> intro h))) | ((first | refine OpsL.same ?_ | refine OpsDL.same ?_); first | refine oK c1 rfl rfl rfl ?_ | refine oK c2 rfl rfl rfl ?_ | refine oK c3 rfl rfl rfl ?_ | refine oK c4 rfl rfl rfl ?_ | refine oK c5 rfl rfl rfl ?_ | refine oK (c6 _) rfl rfl rfl ?_) | refine MvQ.stay ?_)
  ((first | refine OpsL.same ?_ | refine OpsDL.same ?_); first | refine pK c8 rfl rfl ?_)
  (repeat' first | (refine Owe.same ?_; first | refine Owe.o ?_ | refine Owe.mk ?_ ?_) | (refine Fork.same ?_; (first | refine fkY ?_ | refine fkF ?_ | ((first | refine fkD ?_ ?_ | refine fkN ?_ ?_ | refine fkM ?_ ?_) <;> intro h))) | ((first | refine OpsL.same ?_ | refine OpsDL.same ?_); first | refine oK c8 rfl rfl rfl ?_) | refine MvQ.stay ?_)
  (refine rqK rfl ?_; (repeat' first | exact rfl | (refine qS ?_; constructor)))
abbrev exN : List Sn := [(0, (-10, -8), (-5, -4)), (100, (-10, -9), (-20, -18)), (200, (-11, -9), (-16, -13))]
theorem exN_ok : ∀ i, i < 3 → SnOk (exN.getD i sn0) := fun i hi => by
  rcases (show i = 0 ∨ i = 1 ∨ i = 2 by omega) with rfl | rfl | rfl <;> exact ⟨by decide, by decide, by decide, by decide, by decide⟩
def lastN : Nat → Int
  | 0 => -1
  | k + 1 => (exN.getD k sn0).1
theorem C134 : PFD Try.prog 134 [.c (sns exN)] (.tup [vi .i64 0, vi .i64 0]) := by
  refine pi2 fn134 ?_
  (repeat' first | (refine Owe.same ?_; first | refine Owe.o ?_ | refine Owe.mk ?_ ?_) | (refine Fork.same ?_; (first | refine fkY ?_ | refine fkF ?_ | ((first | refine fkD ?_ ?_ | refine fkN ?_ ?_ | refine fkM ?_ ?_) <;> (intro h; try (exfalso; omega))))) | ((first | refine OpsL.same ?_ | refine OpsDL.same ?_); first | refine oK C76 rfl rfl rfl ?_) | refine MvQ.stay ?_)
  refine Ops.cs rfl rfl (CallS.of fn139 rfl ?_)
  (repeat' first | (refine Owe.same ?_; first | refine Owe.o ?_ | refine Owe.mk ?_ ?_) | (refine Fork.same ?_; (first | refine fkY ?_ | refine fkF ?_ | ((first | refine fkD ?_ ?_ | refine fkN ?_ ?_ | refine fkM ?_ ?_) <;> (intro h; try (exfalso; omega))))) | ((first | refine OpsL.same ?_ | refine OpsDL.same ?_); first | refine oK C76 rfl rfl rfl ?_) | refine MvQ.stay ?_)
  refine Sat.lp (fun k : Nat => ⟨[(11, vi .i64 k), (10, vi .i64 3), (9, .c (sns exN)), (1, .c (.fn 140 [0]))], [(0, .box [int (lastN k)])], 1⟩)
    (fun k => k ≤ 3) (fun k => 3 - k) 0 [] (Nat.zero_le _) ?_ ?_
  · (refine qis ?_ ?_ <;> (repeat' first | exact rfl | (refine qS ?_; constructor)))
  intro k hk
  refine Fork.dec (fun hlt => ?_) (fun hlt => ?_)
  · have hlt : k < 3 := by omega
    have c1 := C141 (exN_ok k hlt)
    have c7 : PFD Try.prog 41 [vbl (decide (lastN k < (exN.getD k sn0).1)), vi .i64 9] (vi .i64 0) := by
      rcases (show k = 0 ∨ k = 1 ∨ k = 2 by omega) with rfl | rfl | rfl <;> exact C41
    have c8 : PFD Try.prog 39 [.c (ints [0, 0])] (vi .i64 0) := C39 (l := [0, 0]) (by decide)
    (repeat' first | (refine Owe.same ?_; first | refine Owe.o ?_ | refine Owe.mk ?_ ?_) | (refine Fork.same ?_; (first | refine fkD ?_ ?_ | refine fkN ?_ ?_ | refine fkM ?_ ?_) <;> (intro h; try (exfalso; omega))) | refine MvQ.stay ?_)
    refine Ops.cs rfl rfl (CallS.of fn140 rfl ?_)
    (repeat' first | (refine Owe.same ?_; first | refine Owe.o ?_ | refine Owe.mk ?_ ?_) | (refine Fork.same ?_; (first | refine fkY ?_ | refine fkF ?_ | ((first | refine fkD ?_ ?_ | refine fkN ?_ ?_ | refine fkM ?_ ?_) <;> intro h))) | ((first | refine OpsL.same ?_ | refine OpsDL.same ?_); first | refine oK c1 rfl rfl rfl ?_ | refine oK c7 rfl rfl rfl ?_) | refine MvQ.stay ?_)
    ((first | refine OpsL.same ?_ | refine OpsDL.same ?_); first | refine pK c8 rfl rfl ?_)
    (repeat' first | (refine Owe.same ?_; first | refine Owe.o ?_ | refine Owe.mk ?_ ?_) | (refine Fork.same ?_; (first | refine fkY ?_ | refine fkF ?_ | ((first | refine fkD ?_ ?_ | refine fkN ?_ ?_ | refine fkM ?_ ?_) <;> intro h))) | ((first | refine OpsL.same ?_ | refine OpsDL.same ?_); first | refine oK c8 rfl rfl rfl ?_) | refine MvQ.stay ?_)
    refine again (k + 1) [] hlt (by omega) ?_
    (refine qis ?_ ?_ <;> (repeat' first | exact rfl | (refine qS ?_; constructor)))
  · have : k = 3 := by omega
    subst this
    (repeat' first | (refine Owe.same ?_; first | refine Owe.o ?_ | refine Owe.mk ?_ ?_) | (refine Fork.same ?_; (first | refine fkD ?_ ?_ | refine fkN ?_ ?_ | refine fkM ?_ ?_) <;> (intro h; try (exfalso; omega))) | refine MvQ.stay ?_)
    (refine rqK rfl ?_; (repeat' first | exact rfl | (refine qS ?_; constructor)))
theorem C117 : PFD Try.prog 117 [.c (sns exN)] (vi .i64 0) := by
  refine pi1 fn117 ?_
  (repeat' first | (refine Owe.same ?_; first | refine Owe.o ?_ | refine Owe.mk ?_ ?_) | (refine Fork.same ?_; (first | refine fkY ?_ | refine fkF ?_ | ((first | refine fkD ?_ ?_ | refine fkN ?_ ?_ | refine fkM ?_ ?_) <;> intro h))) | ((first | refine OpsL.same ?_ | refine OpsDL.same ?_); first | refine oK C134 rfl rfl rfl ?_) | refine MvQ.stay ?_)
  (refine rqK rfl ?_; (repeat' first | exact rfl | (refine qS ?_; constructor)))
theorem C98 : PFD Try.prog 98 [.c (sns exN), vi .i64 4] (vi .i64 0) := by
  have c1 := C76 (n := 4) (lo := 1) (hi := 1000)
  rw [decide_eq_true (by decide)] at c1
  have c6 : ∀ e, PFD Try.prog 41 [vbl true, vi .i64 e] (vi .i64 0) := fun e => C41
  have c8 : PFD Try.prog 39 [.c (ints [0, 0])] (vi .i64 0) := C39 (l := [0, 0]) (by decide)
  refine pi1 fn98 ?_
  (repeat' first | (refine Owe.same ?_; first | refine Owe.o ?_ | refine Owe.mk ?_ ?_) | (refine Fork.same ?_; (first | refine fkY ?_ | refine fkF ?_ | ((first | refine fkD ?_ ?_ | refine fkN ?_ ?_ | refine fkM ?_ ?_) <;> intro h))) | ((first | refine OpsL.same ?_ | refine OpsDL.same ?_); first | refine oK C117 rfl rfl rfl ?_ | refine oK c1 rfl rfl rfl ?_ | refine oK (c6 _) rfl rfl rfl ?_) | refine MvQ.stay ?_)
  ((first | refine OpsL.same ?_ | refine OpsDL.same ?_); first | refine pK c8 rfl rfl ?_)
  (repeat' first | (refine Owe.same ?_; first | refine Owe.o ?_ | refine Owe.mk ?_ ?_) | (refine Fork.same ?_; (first | refine fkY ?_ | refine fkF ?_ | ((first | refine fkD ?_ ?_ | refine fkN ?_ ?_ | refine fkM ?_ ?_) <;> intro h))) | ((first | refine OpsL.same ?_ | refine OpsDL.same ?_); first | refine oK c8 rfl rfl rfl ?_) | refine MvQ.stay ?_)
  (refine rqK rfl ?_; (repeat' first | exact rfl | (refine qS ?_; constructor)))
theorem C101 {f : Sn} : SnOk f → PFD Try.prog 101 [snv f, vi .i64 4] (spv (f.2.1.1 - f.2.2.2 - 4, f.2.1.2 - f.2.2.1 - 4)) := fun hf => by
  obtain ⟨h1, h2, h3, h4, h5⟩ := hf
  have c1 := C118 (p := f.2.1) (q := f.2.2) ⟨by omega, by omega⟩
  have c2 := C118 (p := (f.2.1.1 - f.2.2.2, f.2.1.2 - f.2.2.1)) (q := (4, 4)) ⟨by simp only; omega, by decide⟩
  refine pi1 fn101 ?_
  (repeat' first | (refine Owe.same ?_; first | refine Owe.o ?_ | refine Owe.mk ?_ ?_) | (refine Fork.same ?_; (first | refine fkY ?_ | refine fkF ?_ | ((first | refine fkD ?_ ?_ | refine fkN ?_ ?_ | refine fkM ?_ ?_) <;> intro h))) | ((first | refine OpsL.same ?_ | refine OpsDL.same ?_); first | refine oK c1 rfl rfl rfl ?_ | refine oK c2 rfl rfl rfl ?_) | refine MvQ.stay ?_)
  (refine rqK rfl ?_; (repeat' first | exact rfl | (refine qS ?_; constructor)))
theorem C73 : PFD Try.prog 73 [.c (sns exN), vi .i64 4, .c (.fn 74 [])] (.tup [.c (prs [(1, 1)]), vi .i64 0]) := by
  have c0 := C101 (exN_ok 0 (by decide))
  have c1 := C101 (exN_ok 1 (by decide))
  have c2 := C101 (exN_ok 2 (by decide))
  have d0 := C74 (p := (-10 - -4 - 4, -8 - -5 - 4))
  have d1 := C74 (p := (-10 - -18 - 4, -9 - -20 - 4))
  have d2 := C74 (p := (-11 - -13 - 4, -9 - -16 - 4))
  refine pi2 fn73u ?_
  (repeat' first | (refine Owe.same ?_; first | refine Owe.o ?_ | refine Owe.mk ?_ ?_) | (refine Fork.same ?_; (first | refine fkY ?_ | refine fkF ?_ | ((first | refine fkD ?_ ?_ | refine fkN ?_ ?_ | refine fkM ?_ ?_) <;> intro h))) | ((first | refine OpsL.same ?_ | refine OpsDL.same ?_); first | refine oK C98 rfl rfl rfl ?_) | refine MvQ.stay ?_)
  refine Ops.cs rfl rfl (CallS.of fn99 rfl ?_)
  (repeat' first | (refine Owe.same ?_; first | refine Owe.o ?_ | refine Owe.mk ?_ ?_) | (refine Fork.same ?_; (first | refine fkY ?_ | refine fkF ?_ | ((first | refine fkD ?_ ?_ | refine fkN ?_ ?_ | refine fkM ?_ ?_) <;> intro h))) | ((first | refine OpsL.same ?_ | refine OpsDL.same ?_); first | refine oK C98 rfl rfl rfl ?_) | refine MvQ.stay ?_)
  refine Sat.nilS 7 31 2 (fun i => r2 (([] : List (Int × Int)).getD i (0, 0))) rfl ?_
  refine Sat.rd 3 ?_
  (repeat' first | (refine Owe.same ?_; first | refine Owe.o ?_ | refine Owe.mk ?_ ?_) | (refine Fork.same ?_; (first | refine fkY ?_ | refine fkF ?_ | ((first | refine fkD ?_ ?_ | refine fkN ?_ ?_ | refine fkM ?_ ?_) <;> intro h))) | ((first | refine OpsL.same ?_ | refine OpsDL.same ?_); first | refine oK C98 rfl rfl rfl ?_) | refine MvQ.stay ?_)
  refine Ops.cs rfl rfl (CallS.of fn100 rfl ?_)
  (repeat' first | (refine Owe.same ?_; first | refine Owe.o ?_ | refine Owe.mk ?_ ?_) | (refine Fork.same ?_; (first | refine fkY ?_ | refine fkF ?_ | ((first | refine fkD ?_ ?_ | refine fkN ?_ ?_ | refine fkM ?_ ?_) <;> intro h))) | ((first | refine OpsL.same ?_ | refine OpsDL.same ?_); first | refine oK c0 rfl rfl rfl ?_ | refine oK d0 rfl rfl rfl ?_) | refine MvQ.stay ?_)
  refine Ops.cs rfl rfl (CallS.of fn100 rfl ?_)
  (repeat' first | (refine Owe.same ?_; first | refine Owe.o ?_ | refine Owe.mk ?_ ?_) | (refine Fork.same ?_; (first | refine fkY ?_ | refine fkF ?_ | ((first | refine fkD ?_ ?_ | refine fkN ?_ ?_ | refine fkM ?_ ?_) <;> intro h))) | ((first | refine OpsL.same ?_ | refine OpsDL.same ?_); first | refine oK c1 rfl rfl rfl ?_ | refine oK d1 rfl rfl rfl ?_) | refine MvQ.stay ?_)
  refine Ops.cs rfl rfl (CallS.of fn100 rfl ?_)
  (repeat' first | (refine Owe.same ?_; first | refine Owe.o ?_ | refine Owe.mk ?_ ?_) | (refine Fork.same ?_; (first | refine fkY ?_ | refine fkF ?_ | ((first | refine fkD ?_ ?_ | refine fkN ?_ ?_ | refine fkM ?_ ?_) <;> intro h))) | ((first | refine OpsL.same ?_ | refine OpsDL.same ?_); first | refine oK c2 rfl rfl rfl ?_ | refine oK d2 rfl rfl rfl ?_) | refine MvQ.stay ?_)
  refine rqF 0 _ rfl rfl rfl ?_; (repeat' first | exact rfl | (refine qS ?_; constructor))
theorem C28 : PFD Try.prog 28 [.c (sns exN), vi .i64 4] (.tup [.c (prs [(1, 1)]), vi .i64 0]) := by
  refine pi2 fn28 ?_
  (repeat' first | (refine Owe.same ?_; first | refine Owe.o ?_ | refine Owe.mk ?_ ?_) | (refine Fork.same ?_; (first | refine fkY ?_ | refine fkF ?_ | ((first | refine fkD ?_ ?_ | refine fkN ?_ ?_ | refine fkM ?_ ?_) <;> intro h))) | ((first | refine OpsL.same ?_ | refine OpsDL.same ?_); first | refine oK C73 rfl rfl rfl ?_) | refine MvQ.stay ?_)
  (refine rqK rfl ?_; (repeat' first | exact rfl | (refine qS ?_; constructor)))
theorem C29 : PFD Try.prog 29 [] (.c (sns exN)) := by
  refine pi1 fn29 ?_
  (repeat' first | (refine Owe.same ?_; first | refine Owe.o ?_ | refine Owe.mk ?_ ?_) | (refine Fork.same ?_; (first | refine fkD ?_ ?_ | refine fkN ?_ ?_ | refine fkM ?_ ?_) <;> intro h) | refine MvQ.stay ?_)
  (refine rqK rfl ?_; (repeat' first | exact rfl | (refine qS ?_; constructor)))
abbrev exF : List Ft := [((0, 2), 0, (3, 4)), ((10, 11), 2, (5, 6))]
abbrev exG : List Ft := [((1, 3), 0, (3, 5)), ((14, 15), 2, (8, 9)), ((20, 20), 1, (1, 1))]
theorem C30 : PFD Try.prog 30 [] (.c (fts exF)) := by
  refine pi1 fn30 ?_
  (repeat' first | (refine Owe.same ?_; first | refine Owe.o ?_ | refine Owe.mk ?_ ?_) | (refine Fork.same ?_; (first | refine fkD ?_ ?_ | refine fkN ?_ ?_ | refine fkM ?_ ?_) <;> intro h) | refine MvQ.stay ?_)
  (refine rqK rfl ?_; (repeat' first | exact rfl | (refine qS ?_; constructor)))
theorem C31 : PFD Try.prog 31 [] (.c (fts exG)) := by
  refine pi1 fn31 ?_
  (repeat' first | (refine Owe.same ?_; first | refine Owe.o ?_ | refine Owe.mk ?_ ?_) | (refine Fork.same ?_; (first | refine fkD ?_ ?_ | refine fkN ?_ ?_ | refine fkM ?_ ?_) <;> intro h) | refine MvQ.stay ?_)
  (refine rqK rfl ?_; (repeat' first | exact rfl | (refine qS ?_; constructor)))
theorem exF_ok : FtsOk exF := ⟨by decide, fun i hi => by
  rcases (show i = 0 ∨ i = 1 by simp at hi; omega) with rfl | rfl <;> exact ⟨by decide, by decide, by decide⟩, fun i hi => by
  rcases (show i = 0 by simp at hi; omega) with rfl; decide⟩
theorem exG_ok : FtsOk exG := ⟨by decide, fun i hi => by
  rcases (show i = 0 ∨ i = 1 ∨ i = 2 by simp at hi; omega) with rfl | rfl | rfl <;> exact ⟨by decide, by decide, by decide⟩, fun i hi => by
  rcases (show i = 0 ∨ i = 1 by simp at hi; omega) with rfl | rfl <;> decide⟩
theorem C32 : PFD Try.prog 32 [.c (prs [(1, 1)]), .c (prs [(1, 1)])] (vbl true) := by
  refine pi1 fn32 ?_
  (repeat' first | (refine Owe.same ?_; first | refine Owe.o ?_ | refine Owe.mk ?_ ?_) | (refine Fork.same ?_; (first | refine fkY ?_ | refine fkF ?_ | ((first | refine fkD ?_ ?_ | refine fkN ?_ ?_ | refine fkM ?_ ?_) <;> intro h))) | ((first | refine OpsL.same ?_ | refine OpsDL.same ?_); first | refine oK C76 rfl rfl rfl ?_) | refine MvQ.stay ?_)
  refine Sat.rd 1 ?_
  (repeat' first | (refine Owe.same ?_; first | refine Owe.o ?_ | refine Owe.mk ?_ ?_) | (refine Fork.same ?_; (first | refine fkY ?_ | refine fkF ?_ | ((first | refine fkD ?_ ?_ | refine fkN ?_ ?_ | refine fkM ?_ ?_) <;> intro h))) | ((first | refine OpsL.same ?_ | refine OpsDL.same ?_); first | refine oK C76 rfl rfl rfl ?_) | refine MvQ.stay ?_)
  (refine rqK rfl ?_; (repeat' first | exact rfl | (refine qS ?_; constructor)))
theorem C5 : PFD Try.prog 5 [] (vbl true) := by
  have c10 := C10 (A := exF) (B := exG) (s := 5) ⟨exF_ok, exG_ok, by decide⟩
  rw [show chX exF exG (mtL 5 exF exG) exF.length exG.length = [(2, 1, 1, 2), (0, -1, 2, 0)] by decide +kernel] at c10
  refine pi1 fn5 ?_
  (repeat' first | (refine Owe.same ?_; first | refine Owe.o ?_ | refine Owe.mk ?_ ?_) | (refine Fork.same ?_; (first | refine fkY ?_ | refine fkF ?_ | ((first | refine fkD ?_ ?_ | refine fkN ?_ ?_ | refine fkM ?_ ?_) <;> intro h))) | ((first | refine OpsL.same ?_ | refine OpsDL.same ?_); first | refine oK C29 rfl rfl rfl ?_ | refine oK C28 rfl rfl rfl ?_ | refine oK C30 rfl rfl rfl ?_ | refine oK C31 rfl rfl rfl ?_ | refine oK c10 rfl rfl rfl ?_) | refine MvQ.stay ?_)
  ((first | refine OpsL.same ?_ | refine OpsDL.same ?_); first | refine pK C32 rfl rfl ?_)
  (repeat' first | (refine Owe.same ?_; first | refine Owe.o ?_ | refine Owe.mk ?_ ?_) | (refine Fork.same ?_; (first | refine fkY ?_ | refine fkF ?_ | ((first | refine fkD ?_ ?_ | refine fkN ?_ ?_ | refine fkM ?_ ?_) <;> intro h))) | ((first | refine OpsL.same ?_ | refine OpsDL.same ?_); first | refine oK C32 rfl rfl rfl ?_) | refine MvQ.stay ?_)
  (refine rqK rfl ?_; (repeat' first | exact rfl | (refine qS ?_; constructor)))
end Go.Pw

set_option linter.unusedSimpArgs false
set_option linter.unusedVariables false
namespace Go.Pw
set_option maxRecDepth 2000
open Go Go.Proofs A1 A2 A3 A4
abbrev Fd := Int × Int × Int × Int × Int × Int
abbrev fd0 : Fd := (0, 0, 0, 0, 0, 0)
structure Sy where
  at_ : Int
  a : List Ft
  b : List Ft
  bf : List Int
  af : List Int
def oldS (x : Fd) : Int := x.2.2.1 % 100
def nowS (x : Fd) : Int := IntKind.i64.wrap (x.2.2.1 + x.2.2.2.1) % 100
def ftF (p : Int) (x : Fd) (lo hi : Int) : Ft := ((p, p + x.2.2.2.2.1 % 5), x.2.1 % 3, (lo, hi))
def ftP (p : Int) (x : Fd) : Ft := ftF p x (max 0 (oldS x - x.2.2.2.2.1 % 7)) (oldS x + x.2.2.2.2.1 % 4)
def ftQ (p : Int) (x : Fd) : Ft := ftF p x (max 0 (nowS x - x.2.2.2.2.1 % 3)) (nowS x + x.2.2.2.2.1 % 6)
def syS (st : Sy) (x : Fd) : Sy :=
  { at_ := st.at_ + x.1 % 20
    a := st.a ++ if x.2.2.2.2.2 ≠ 1 then [ftP (st.at_ + x.1 % 20) x] else []
    bf := st.bf ++ if x.2.2.2.2.2 ≠ 1 then [oldS x] else []
    b := st.b ++ if x.2.2.2.2.2 ≠ 2 then [ftQ (st.at_ + x.1 % 20) x] else []
    af := st.af ++ if x.2.2.2.2.2 ≠ 2 then [nowS x] else [] }
def syL (l : List Fd) : Sy := l.foldl syS ⟨0, [], [], [], []⟩
theorem syL_take {l : List Fd} {k : Nat} (h : k < l.length) : syL (l.take (k + 1)) = syS (syL (l.take k)) (l.getD k fd0) := by
  rw [take_succD fd0 h, syL, List.foldl_append]; rfl
/-- A survey: its features, the true sizes. -/
structure SvT (a : List Ft) (t : List Int) (p : Int) (k : Nat) : Prop where
  n : a.length ≤ k
  len : t.length = a.length
  ok : FtsOk a
  last : ∀ f ∈ a, f.1.1 ≤ p
  sz : ∀ i, i < a.length → (a.getD i ft0).2.2.1 ≤ t.getD i 0 ∧ t.getD i 0 ≤ (a.getD i ft0).2.2.2
  bd : ∀ i, i < a.length → 0 ≤ t.getD i 0 ∧ t.getD i 0 ≤ 100
theorem getD_app {α : Type} {d : α} {l m : List α} {i : Nat} : (l ++ m).getD i d = if i < l.length then l.getD i d else m.getD (i - l.length) d := by
  rw [List.getD_eq_getElem?_getD]
  split
  · rename_i h; rw [List.getElem?_append_left h, ← List.getD_eq_getElem?_getD]
  · rename_i h; rw [List.getElem?_append_right (by omega), ← List.getD_eq_getElem?_getD]
theorem SvT.app {a : List Ft} {t : List Int} {p q : Int} {k : Nat} {f : Ft} {v : Int} (h : SvT a t p k) (hpq : p ≤ q) (hk : k + 1 ≤ 8) (hf : FtOk f) (hq : f.1.1 = q) (hv : f.2.2.1 ≤ v ∧ v ≤ f.2.2.2) (hb : 0 ≤ v ∧ v ≤ 100) : SvT (a ++ [f]) (t ++ [v]) q (k + 1) := by
  obtain ⟨h1, h2, ⟨h3, h4, h5⟩, h6, h7, h8⟩ := h
  have hl : (a ++ [f]).length = a.length + 1 := by simp
  refine ⟨by omega, by simp [h2], ⟨by omega, fun i hi => ?_, fun i hi => ?_⟩, fun g hg => ?_, fun i hi => ?_, fun i hi => ?_⟩
  · rw [getD_app]; split
    · exact h4 i (by omega)
    · have : i - a.length = 0 := by omega
      rw [this]; exact hf
  · rw [getD_app, getD_app, if_pos (by omega)]; split
    · exact h5 i (by omega)
    · have : i + 1 - a.length = 0 := by omega
      rw [this]
      have := h6 _ (getD_mem ft0 (show i < a.length by omega))
      show _ ≤ f.1.1
      omega
  · rcases List.mem_append.1 hg with hg | hg
    · exact Int.le_trans (h6 g hg) hpq
    · rw [List.mem_singleton.1 hg, hq]; exact Int.le_refl _
  · rw [getD_app, getD_app, h2]; split
    · exact h7 i (by omega)
    · have : i - a.length = 0 := by omega
      rw [this]; exact hv
  · rw [getD_app, h2]; split
    · exact h8 i (by omega)
    · have : i - a.length = 0 := by omega
      rw [this]; exact hb
theorem SvT.up {a : List Ft} {t : List Int} {p q : Int} {k : Nat} (h : SvT a t p k) (hpq : p ≤ q) : SvT (a ++ []) (t ++ []) q (k + 1) := by
  rw [List.append_nil, List.append_nil]
  exact ⟨Nat.le_succ_of_le h.n, h.len, h.ok, fun f hf => Int.le_trans (h.last f hf) hpq, h.sz, h.bd⟩
theorem md (n b : Int) (hb : 0 < b) : 0 ≤ n % b ∧ n % b < b := ⟨Int.emod_nonneg _ (by omega), Int.emod_lt_of_pos _ hb⟩
structure SyOk (st : Sy) (k : Nat) : Prop where
  p : 0 ≤ st.at_ ∧ st.at_ ≤ 19 * k
  a : SvT st.a st.bf st.at_ k
  b : SvT st.b st.af st.at_ k
theorem svT_nil {p : Int} : SvT [] [] p 0 := ⟨Nat.le_refl _, rfl, ⟨by simp, fun i h => absurd h (Nat.not_lt_zero _), fun i h => absurd h (Nat.not_lt_zero _)⟩, fun f h => absurd h List.not_mem_nil, fun i h => absurd h (Nat.not_lt_zero _), fun i h => absurd h (Nat.not_lt_zero _)⟩
theorem syOk {l : List Fd} : ∀ k, k ≤ l.length → l.length ≤ 6 → SyOk (syL (l.take k)) k
  | 0, _, _ => ⟨by simp [syL], by simp [syL]; exact svT_nil, by simp [syL]; exact svT_nil⟩
  | k + 1, hk, hl => by
    have ih := syOk k (by omega) hl
    rw [syL_take (by omega)]
    generalize syL (l.take k) = st at ih ⊢
    generalize l.getD k fd0 = x
    obtain ⟨⟨p1, p2⟩, ha, hb⟩ := ih
    have m1 := md x.1 20 (by decide)
    have m2 := md x.2.2.2.2.1 5 (by decide)
    have m3 := md x.2.1 3 (by decide)
    have m4 := md x.2.2.2.2.1 7 (by decide)
    have m5 := md x.2.2.2.2.1 4 (by decide)
    have m6 := md x.2.2.2.2.1 3 (by decide)
    have m7 := md x.2.2.2.2.1 6 (by decide)
    have m8 : 0 ≤ oldS x ∧ oldS x < 100 := md x.2.2.1 100 (by decide)
    have m9 : 0 ≤ nowS x ∧ nowS x < 100 := md _ 100 (by decide)
    refine ⟨⟨by simp only [syS]; omega, by simp only [syS]; omega⟩, ?_, ?_⟩
    · simp only [syS]
      by_cases hw : x.2.2.2.2.2 ≠ 1
      · rw [if_pos hw, if_pos hw]
        refine ha.app (by omega) (by omega) ⟨?_, ?_, ?_⟩ rfl ?_ (by omega)
        all_goals simp only [ftP, ftF]; omega
      · rw [if_neg hw, if_neg hw]; exact ha.up (by omega)
    · simp only [syS]
      by_cases hw : x.2.2.2.2.2 ≠ 2
      · rw [if_pos hw, if_pos hw]
        refine hb.app (by omega) (by omega) ⟨?_, ?_, ?_⟩ rfl ?_ (by omega)
        all_goals simp only [ftQ, ftF]; omega
      · rw [if_neg hw, if_neg hw]; exact hb.up (by omega)
/-- What a change may say. -/
def ChOk (A B : List Ft) (M : List (Nat × Nat)) (bf af : List Int) (c : Ch) : Prop :=
  (∃ i : Nat, c = (1, (i : Int), -1, 0) ∧ i < A.length ∧ ∀ p ∈ M, p.1 ≠ i) ∨ (∃ k : Nat, c = (0, -1, (k : Int), 0) ∧ k < B.length ∧ ∀ p ∈ M, p.2 ≠ k) ∨
  ∃ (i k : Nat) (n : Int), (c = (2, (i : Int), (k : Int), n) ∧ n ≤ af.getD k 0 - bf.getD i 0 ∨ c = (3, (i : Int), (k : Int), n) ∧ n ≤ bf.getD i 0 - af.getD k 0) ∧ 0 < n ∧ n ≤ 10000 ∧ i < A.length ∧ k < B.length
theorem mlook_none {es : List (Int × Int)} {n : Int} (h : mlook es n = none) : ∀ p ∈ es, p.1 ≠ n := by
  induction es with
  | nil => intro p hp; cases hp
  | cons q r ih =>
    obtain ⟨a, y⟩ := q
    rw [mlook] at h
    split at h
    · cases h
    · rename_i ha
      intro p hp
      rcases List.mem_cons.1 hp with rfl | hp
      · exact ha
      · exact ih h p hp
theorem chX_ok {A B : List Ft} {M : List (Nat × Nat)} {bf af : List Int} {p q : Int} {k k' : Nat} (hA : SvT A bf p k) (hB : SvT B af q k') (hM : PrOk A B M) : ∀ c ∈ chX A B M A.length B.length, ChOk A B M bf af c := fun c hc => by
  rw [chX] at hc
  rcases List.mem_append.1 hc with hc | hc
  · obtain ⟨i, hi, hc⟩ := List.mem_flatMap.1 hc
    rw [List.mem_range] at hi
    rw [chA] at hc
    split at hc
    · rename_i hm
      obtain ⟨z, hz⟩ := Option.isSome_iff_exists.1 hm
      obtain ⟨r, hr, er⟩ := List.mem_map.1 (mlook_in hz)
      have hrg := hM.rng r hr
      injection er with e1 e2
      have gd : (mlook (pI M) i).getD 0 = (r.2 : Int) := by rw [hz, ← e2]; rfl
      rw [gd] at hc
      have s1 := hA.sz i hi
      have s2 := hB.sz r.2 hrg.2.1
      have o1 := (hA.ok.ok i hi).sz
      have o2 := (hB.ok.ok r.2 hrg.2.1).sz
      have et : ((r.2 : Nat) : Int).toNat = r.2 := rfl
      rw [et] at hc
      split at hc
      · rename_i hg
        rw [List.mem_singleton.1 hc]
        exact .inr (.inr ⟨i, r.2, _, .inl ⟨rfl, by omega⟩, by omega, by omega, hi, hrg.2.1⟩)
      · split at hc
        · rename_i hg
          rw [List.mem_singleton.1 hc]
          exact .inr (.inr ⟨i, r.2, _, .inr ⟨rfl, by omega⟩, by omega, by omega, hi, hrg.2.1⟩)
        · cases hc
    · rename_i hm
      have hm : mlook (pI M) i = none := by simpa using hm
      rw [List.mem_singleton.1 hc]
      refine .inl ⟨i, rfl, hi, fun r hr he => mlook_none hm ((r.1 : Int), (r.2 : Int)) (List.mem_map.2 ⟨r, hr, rfl⟩) ?_⟩
      simp only; omega
  · obtain ⟨i, hi, hc⟩ := List.mem_flatMap.1 hc
    rw [List.mem_range] at hi
    rw [chB] at hc
    split at hc
    · rename_i hm
      rw [List.mem_singleton.1 hc]
      refine .inr (.inl ⟨i, rfl, hi, fun r hr he => ?_⟩)
      cases hz : mlook (tkP M) i with
      | none => exact mlook_none hz ((r.2 : Int), 1) (List.mem_map.2 ⟨r, hr, rfl⟩) (by simp only; omega)
      | some z =>
        obtain ⟨r', _, er⟩ := List.mem_map.1 (mlook_in hz)
        injection er with _ e2
        rw [hz] at hm
        simp only [Option.getD_some] at hm
        omega
    · cases hc
end Go.Pw

set_option linter.unusedSimpArgs false
set_option linter.unusedVariables false
namespace Go.Pw
set_option maxRecDepth 2000
open Go Go.Proofs A1 A2 A3 A4
theorem cnt_split (F : List Nat) : ∀ l : List Nat, l.countP (fun i => decide (i ∉ F)) + l.countP (fun i => decide (i ∈ F)) = l.length
  | [] => rfl
  | a :: l => by
    have ih := cnt_split F l
    rw [List.countP_cons, List.countP_cons, List.length_cons]
    by_cases h : a ∈ F
    · rw [if_neg (by simpa using h), if_pos (by simpa using h)]; omega
    · rw [if_pos (by simpa using h), if_neg (by simpa using h)]; omega
theorem cnt_f {α : Type} : ∀ l : List α, l.countP (fun _ => false) = 0
  | [] => rfl
  | a :: l => by rw [List.countP_cons, cnt_f l]; rfl
theorem cnt_asc {n : Nat} {F : List Nat} (hp : F.Pairwise (· < ·)) (hl : ∀ i ∈ F, i < n) : (List.range n).countP (fun i => decide (i ∉ F)) + F.length = n := by
  have h1 := cnt_split F (List.range n)
  have h2 : (List.range n).countP (fun i => decide (i ∈ F)) = F.length := by
    rw [List.countP_eq_length_filter]
    refine List.Perm.length_eq ((List.perm_ext_iff_of_nodup (List.nodup_range.filter _) (hp.imp fun h => Nat.ne_of_lt h)).2 fun a => ?_)
    rw [List.mem_filter, List.mem_range, decide_eq_true_eq]
    exact ⟨fun h => h.2, fun h => ⟨hl a h, h⟩⟩
  rw [List.length_range, h2] at h1
  exact h1
theorem cfm {α : Type} {f : Nat → List α} {q : Nat → Bool} {p : α → Bool} (h : ∀ i, (f i).countP p = if q i = true then 1 else 0) : ∀ n, ((List.range n).flatMap f).countP p = (List.range n).countP q
  | 0 => rfl
  | n + 1 => by rw [List.range_succ, List.flatMap_append, List.countP_append, List.countP_append, cfm h n, List.flatMap_singleton, h n, List.countP_singleton]
theorem mlook_iff {es : List (Int × Int)} {n : Int} : mlook es n = none ↔ ∀ p ∈ es, p.1 ≠ n := by
  constructor
  · exact mlook_none
  · intro h
    cases hm : mlook es n with
    | none => rfl
    | some k => exact absurd rfl (h _ (mlook_in hm))
theorem lk_a {M : List (Nat × Nat)} {i : Nat} : mlook (pI M) i = none ↔ i ∉ M.map (·.1) := by
  rw [mlook_iff]
  constructor
  · intro h hm
    obtain ⟨p, hp, e⟩ := List.mem_map.1 hm
    exact h _ (List.mem_map.2 ⟨p, hp, rfl⟩) (by simp only at e ⊢; omega)
  · intro h p hp he
    obtain ⟨r, hr, rfl⟩ := List.mem_map.1 hp
    exact h (List.mem_map.2 ⟨r, hr, by simp only at he ⊢; omega⟩)
theorem lk_b {M : List (Nat × Nat)} {i : Nat} : (mlook (tkP M) i).getD 0 = 0 ↔ i ∉ M.map (·.2) := by
  have h1 : mlook (tkP M) i = none ↔ i ∉ M.map (·.2) := by
    rw [mlook_iff]
    constructor
    · intro h hm
      obtain ⟨p, hp, e⟩ := List.mem_map.1 hm
      exact h _ (List.mem_map.2 ⟨p, hp, rfl⟩) (by simp only at e ⊢; omega)
    · intro h p hp he
      obtain ⟨r, hr, rfl⟩ := List.mem_map.1 hp
      exact h (List.mem_map.2 ⟨r, hr, by simp only at he ⊢; omega⟩)
  rw [← h1]
  cases hm : mlook (tkP M) i with
  | none => simp
  | some z =>
    obtain ⟨r, _, er⟩ := List.mem_map.1 (mlook_in hm)
    injection er with _ e2
    subst e2
    simp
def isK (k : Int) (c : Ch) : Bool := decide (c.1 = k)
theorem lost_n {A B : List Ft} {M : List (Nat × Nat)} (h : PrOk A B M) : (chX A B M A.length B.length).countP (isK 1) + M.length = A.length := by
  rw [chX, List.countP_append, cfm (q := fun i => decide (i ∉ M.map (·.1))), cfm (q := fun _ => false)]
  · have := cnt_asc (n := A.length) (F := M.map (·.1)) (by rw [List.pairwise_map]; exact h.asc.imp fun h => h.1) fun i hi => by
      obtain ⟨p, hp, rfl⟩ := List.mem_map.1 hi; exact (h.rng p hp).1
    rw [List.length_map] at this
    rw [cnt_f]
    omega
  · intro i
    rw [chB]; split <;> rfl
  · intro i
    rw [chA]
    by_cases hm : mlook (pI M) i = none
    · rw [if_neg (by rw [hm]; decide), if_pos (decide_eq_true (lk_a.1 hm))]; rfl
    · have e : decide (i ∉ M.map (·.1)) = false := decide_eq_false fun h => hm (lk_a.2 h)
      rw [if_pos (by cases h : mlook (pI M) i with
        | none => exact absurd h hm
        | some _ => rfl), e]
      split
      · rfl
      · split <;> rfl
theorem new_n {A B : List Ft} {M : List (Nat × Nat)} (h : PrOk A B M) : (chX A B M A.length B.length).countP (isK 0) + M.length = B.length := by
  rw [chX, List.countP_append, cfm (q := fun _ => false), cfm (q := fun i => decide (i ∉ M.map (·.2)))]
  · have := cnt_asc (n := B.length) (F := M.map (·.2)) (by rw [List.pairwise_map]; exact h.asc.imp fun h => h.2) fun i hi => by
      obtain ⟨p, hp, rfl⟩ := List.mem_map.1 hi; exact (h.rng p hp).2.1
    rw [List.length_map] at this
    rw [cnt_f]
    omega
  · intro i
    rw [chB]
    by_cases hm : (mlook (tkP M) i).getD 0 = 0
    · rw [if_pos hm, if_pos (decide_eq_true (lk_b.1 hm))]; rfl
    · have e : decide (i ∉ M.map (·.2)) = false := decide_eq_false fun h => hm (lk_b.2 h)
      rw [if_neg hm, e]; rfl
  · intro i
    rw [chA]
    split
    · split
      · rfl
      · split <;> rfl
    · rfl
theorem cnt_take {l : List Ch} {k : Nat} {n : Int} (h : k < l.length) : ((l.take (k + 1)).countP (isK n) : Int) = (l.take k).countP (isK n) + if (l.getD k ch0).1 = n then 1 else 0 := by
  rw [take_succD ch0 h, List.countP_append, List.countP_singleton, isK]
  by_cases hk : (l.getD k ch0).1 = n
  · rw [if_pos (decide_eq_true hk), if_pos hk]; rfl
  · rw [if_neg (by rw [decide_eq_false hk]; decide), if_neg hk]; rfl
theorem wrap_R (n : Int) : R64 (IntKind.i64.wrap n) := by
  have h := Int.emod_nonneg n (show (18446744073709551616 : Int) ≠ 0 by decide)
  have h2 := Int.emod_lt_of_pos n (show (0 : Int) < 18446744073709551616 by decide)
  have e : IntKind.i64.wrap n = if n % 18446744073709551616 ≥ 9223372036854775808 then n % 18446744073709551616 - 18446744073709551616 else n % 18446744073709551616 := by
    unfold IntKind.wrap
    by_cases hh : n % 18446744073709551616 ≥ 9223372036854775808
    · rw [if_pos hh]
      exact if_pos (by simpa [IntKind.signed, IntKind.bits] using hh)
    · rw [if_neg hh]
      exact if_neg (by simpa [IntKind.signed, IntKind.bits] using hh)
  rw [e, R64]
  split <;> omega
end Go.Pw

set_option linter.unusedVariables false
set_option maxHeartbeats 2000000
set_option maxRecDepth 100000
namespace Go.Pw
open Go Go.Proofs
/-- moonpool/moonpooltop.TopSurveyChanged -/
def lc3w : LCode :=
  (.seq (.region [⟨some 4, .mv (.const (.bool false)), none⟩]) (.seq (.seq (.region [⟨some 27, .call (.func 5) [], none⟩, ⟨some 28, .un .not (.tmp 27), none⟩]) (.cond (.tmp 28)
    (.seq (.region [⟨some 4, .mv (.const (.bool false)), none⟩]) .ret) .skip)) (.seq (.seq (.region [⟨some 29, .mv (.tmp 0), none⟩, ⟨some 30, .len (.tmp 29), none⟩, ⟨some 31, .bin
    .gtr (.tmp 30) (.const (.int .i64 6)), none⟩, ⟨some 32, .mv (.tmp 31), none⟩, ⟨some 33, .mv (.tmp 1), some (32, false)⟩, ⟨some 34, .call (.func 6) [(.tmp 33), (.const (.int .i64
    0)), (.const (.int .i64 100000))], some (32, false)⟩, ⟨some 35, .un .not (.tmp 34), some (32, false)⟩, ⟨some 36, .pick (.tmp 32) (.const (.bool true)) (.tmp 35), none⟩]) (.cond
    (.tmp 36) (.seq (.region [⟨some 4, .mv (.const (.bool true)), none⟩]) .ret) .skip)) (.seq (.region [⟨some 5, .mv (.const (.slice none 0 0)), none⟩, ⟨some 6, .mv (.const (.slice
    none 0 0)), none⟩]) (.seq (.region [⟨some 7, .mv (.const (.slice none 0 0)), none⟩, ⟨some 8, .mv (.const (.slice none 0 0)), none⟩]) (.seq (.region [⟨some 9, .mv (.const (.int
    .i64 0)), none⟩]) (.seq (.seq (.region [⟨some 10, .mv (.const (.int .i64 0)), none⟩]) (.block 0 (.loop (.seq (.seq (.region [⟨some 37, .mv (.tmp 10), none⟩, ⟨some 38, .mv (.tmp
    0), none⟩, ⟨some 39, .len (.tmp 38), none⟩, ⟨some 40, .bin .lss (.tmp 37) (.tmp 39), none⟩]) (.cond (.tmp 40) .skip (.exit 0))) (.seq (.block 1 (.seq (.region [⟨some 43, .mv
    (.tmp 9), none⟩, ⟨some 44, .mv (.tmp 0), none⟩, ⟨some 45, .mv (.tmp 10), none⟩, ⟨some 46, .idx 6 (.tmp 44) (.tmp 45), none⟩, ⟨some 47, .fld 0 (.tmp 46), none⟩, ⟨some 48, .load
    false 1 (.tmp 47), none⟩, ⟨some 49, .call (.func 7) [(.tmp 48), (.const (.int .i64 20))], none⟩, ⟨some 50, .bin .add (.tmp 43) (.tmp 49), none⟩, ⟨some 9, .mv (.tmp 50), none⟩])
    (.seq (.regionD [⟨some 51, .mv (.tmp 9), none⟩, ⟨some 52, .mv (.tmp 9), none⟩, ⟨some 53, .mv (.tmp 0), none⟩, ⟨some 54, .mv (.tmp 10), none⟩, ⟨some 55, .idx 6 (.tmp 53) (.tmp
    54), none⟩, ⟨some 56, .fld 4 (.tmp 55), none⟩, ⟨some 57, .load false 1 (.tmp 56), none⟩, ⟨some 58, .call (.func 7) [(.tmp 57), (.const (.int .i64 5))], none⟩, ⟨some 59, .bin
    .add (.tmp 52) (.tmp 58), none⟩, ⟨some 60, .build [(.int .i64 0), (.int .i64 0)] [(0, 1, (.tmp 51)), (1, 1, (.tmp 59))], none⟩, ⟨some 61, .mv (.tmp 0), none⟩, ⟨some 62, .mv
    (.tmp 10), none⟩, ⟨some 63, .idx 6 (.tmp 61) (.tmp 62), none⟩, ⟨some 64, .fld 1 (.tmp 63), none⟩, ⟨some 65, .load false 1 (.tmp 64), none⟩, ⟨some 66, .call (.func 7) [(.tmp 65),
    (.const (.int .i64 3))], none⟩, ⟨some 67, .build [(.int .i64 0), (.int .i64 0), (.int .i64 0), (.int .i64 0), (.int .i64 0)] [(0, 2, (.tmp 60)), (2, 1, (.tmp 66))], none⟩, ⟨some
    11, .alloc [(.int .i64 0), (.int .i64 0), (.int .i64 0), (.int .i64 0), (.int .i64 0)], none⟩, ⟨none, .store 5 (.tmp 11) (.tmp 67), none⟩] [0, 0, 0, 0, 12, 28, 60, 124, 254,
    511, 0, 0, 3072, 7168, 15360, 31996, 65535, 0, 262143] [0, 1, 2, 3, 4, 5, 6, 7, 8, 9, 10, 11, 12, 13, 14, 15, 16, 17, 18]) (.seq (.regionD [⟨some 68, .mv (.tmp 0), none⟩, ⟨some
    69, .mv (.tmp 10), none⟩, ⟨some 70, .idx 6 (.tmp 68) (.tmp 69), none⟩, ⟨some 71, .fld 2 (.tmp 70), none⟩, ⟨some 72, .load false 1 (.tmp 71), none⟩, ⟨some 73, .call (.func 7)
    [(.tmp 72), (.const (.int .i64 100))], none⟩, ⟨some 74, .mv (.tmp 0), none⟩, ⟨some 75, .mv (.tmp 10), none⟩, ⟨some 76, .idx 6 (.tmp 74) (.tmp 75), none⟩, ⟨some 77, .fld 2 (.tmp
    76), none⟩, ⟨some 78, .load false 1 (.tmp 77), none⟩, ⟨some 79, .mv (.tmp 0), none⟩, ⟨some 80, .mv (.tmp 10), none⟩, ⟨some 81, .idx 6 (.tmp 79) (.tmp 80), none⟩, ⟨some 82, .fld
    3 (.tmp 81), none⟩, ⟨some 83, .load false 1 (.tmp 82), none⟩, ⟨some 84, .binW .add (.tmp 78) (.tmp 83), none⟩, ⟨some 85, .call (.func 7) [(.tmp 84), (.const (.int .i64 100))],
    none⟩, ⟨some 12, .mv (.tmp 73), none⟩, ⟨some 13, .mv (.tmp 85), none⟩] [0, 0, 3, 7, 15, 31, 0, 0, 192, 448, 960, 0, 0, 6144, 14336, 30720, 65472, 131071, 262143, 524287] [0, 1,
    2, 3, 4, 5, 6, 7, 8, 9, 10, 11, 12, 13, 14, 15, 16, 17, 18, 19]) (.seq (.seq (.region [⟨some 86, .mv (.tmp 0), none⟩, ⟨some 87, .mv (.tmp 10), none⟩, ⟨some 88, .idx 6 (.tmp 86)
    (.tmp 87), none⟩, ⟨some 89, .fld 5 (.tmp 88), none⟩, ⟨some 90, .load false 1 (.tmp 89), none⟩, ⟨some 91, .bin .neq (.tmp 90) (.const (.int .i64 1)), none⟩]) (.cond (.tmp 91)
    (.seq (.regionD [⟨some 92, .mv (.tmp 12), none⟩, ⟨some 93, .mv (.tmp 0), none⟩, ⟨some 94, .mv (.tmp 10), none⟩, ⟨some 95, .idx 6 (.tmp 93) (.tmp 94), none⟩, ⟨some 96, .fld 4
    (.tmp 95), none⟩, ⟨some 97, .load false 1 (.tmp 96), none⟩, ⟨some 98, .call (.func 7) [(.tmp 97), (.const (.int .i64 7))], none⟩, ⟨some 99, .bin .sub (.tmp 92) (.tmp 98), none⟩,
    ⟨some 100, .mm true [(.const (.int .i64 0)), (.tmp 99)], none⟩, ⟨some 101, .mv (.tmp 12), none⟩, ⟨some 102, .mv (.tmp 0), none⟩, ⟨some 103, .mv (.tmp 10), none⟩, ⟨some 104, .idx
    6 (.tmp 102) (.tmp 103), none⟩, ⟨some 105, .fld 4 (.tmp 104), none⟩, ⟨some 106, .load false 1 (.tmp 105), none⟩, ⟨some 107, .call (.func 7) [(.tmp 106), (.const (.int .i64 4))],
    none⟩, ⟨some 108, .bin .add (.tmp 101) (.tmp 107), none⟩, ⟨some 109, .build [(.int .i64 0), (.int .i64 0)] [(0, 1, (.tmp 100)), (1, 1, (.tmp 108))], none⟩, ⟨some 110, .fld 3
    (.tmp 11), none⟩, ⟨none, .store 2 (.tmp 110) (.tmp 109), none⟩] [0, 0, 0, 6, 14, 30, 62, 127, 255, 0, 0, 0, 3072, 7168, 15360, 31870, 65150, 131071, 262143, 524287] [0, 1, 2, 3,
    4, 5, 6, 7, 8, 9, 10, 11, 12, 13, 14, 15, 16, 17, 18, 19]) (.region [⟨some 111, .mv (.tmp 5), none⟩, ⟨some 112, .load true 5 (.tmp 11), none⟩, ⟨some 113, .lit false 33 5 [(.tmp
    112)], none⟩, ⟨some 114, .append true 33 5 40 (.tmp 111) (.tmp 113), none⟩, ⟨some 115, .mv (.tmp 7), none⟩, ⟨some 116, .mv (.tmp 12), none⟩, ⟨some 117, .lit false 3 1 [(.tmp
    116)], none⟩, ⟨some 118, .append true 3 1 8 (.tmp 115) (.tmp 117), none⟩, ⟨some 5, .mv (.tmp 114), none⟩, ⟨some 7, .mv (.tmp 118), none⟩])) .skip)) (.seq (.region [⟨some 119,
    .mv (.tmp 0), none⟩, ⟨some 120, .mv (.tmp 10), none⟩, ⟨some 121, .idx 6 (.tmp 119) (.tmp 120), none⟩, ⟨some 122, .fld 5 (.tmp 121), none⟩, ⟨some 123, .load false 1 (.tmp 122),
    none⟩, ⟨some 124, .bin .neq (.tmp 123) (.const (.int .i64 2)), none⟩]) (.cond (.tmp 124) (.seq (.regionD [⟨some 125, .mv (.tmp 13), none⟩, ⟨some 126, .mv (.tmp 0), none⟩, ⟨some
    127, .mv (.tmp 10), none⟩, ⟨some 128, .idx 6 (.tmp 126) (.tmp 127), none⟩, ⟨some 129, .fld 4 (.tmp 128), none⟩, ⟨some 130, .load false 1 (.tmp 129), none⟩, ⟨some 131, .call
    (.func 7) [(.tmp 130), (.const (.int .i64 3))], none⟩, ⟨some 132, .bin .sub (.tmp 125) (.tmp 131), none⟩, ⟨some 133, .mm true [(.const (.int .i64 0)), (.tmp 132)], none⟩, ⟨some
    134, .mv (.tmp 13), none⟩, ⟨some 135, .mv (.tmp 0), none⟩, ⟨some 136, .mv (.tmp 10), none⟩, ⟨some 137, .idx 6 (.tmp 135) (.tmp 136), none⟩, ⟨some 138, .fld 4 (.tmp 137), none⟩,
    ⟨some 139, .load false 1 (.tmp 138), none⟩, ⟨some 140, .call (.func 7) [(.tmp 139), (.const (.int .i64 6))], none⟩, ⟨some 141, .bin .add (.tmp 134) (.tmp 140), none⟩, ⟨some 142,
    .build [(.int .i64 0), (.int .i64 0)] [(0, 1, (.tmp 133)), (1, 1, (.tmp 141))], none⟩, ⟨some 143, .fld 3 (.tmp 11), none⟩, ⟨none, .store 2 (.tmp 143) (.tmp 142), none⟩] [0, 0,
    0, 6, 14, 30, 62, 127, 255, 0, 0, 0, 3072, 7168, 15360, 31870, 65150, 131071, 262143, 524287] [0, 1, 2, 3, 4, 5, 6, 7, 8, 9, 10, 11, 12, 13, 14, 15, 16, 17, 18, 19]) (.region
    [⟨some 144, .mv (.tmp 6), none⟩, ⟨some 145, .load true 5 (.tmp 11), none⟩, ⟨some 146, .lit false 33 5 [(.tmp 145)], none⟩, ⟨some 147, .append true 33 5 40 (.tmp 144) (.tmp 146),
    none⟩, ⟨some 148, .mv (.tmp 8), none⟩, ⟨some 149, .mv (.tmp 13), none⟩, ⟨some 150, .lit false 3 1 [(.tmp 149)], none⟩, ⟨some 151, .append true 3 1 8 (.tmp 148) (.tmp 150),
    none⟩, ⟨some 6, .mv (.tmp 147), none⟩, ⟨some 8, .mv (.tmp 151), none⟩])) .skip))))))) (.region [⟨some 41, .mv (.tmp 10), none⟩, ⟨some 42, .bin .add (.tmp 41) (.const (.int .i64
    1)), none⟩, ⟨some 10, .mv (.tmp 42), none⟩])))))) (.seq (.region [⟨some 153, .mv (.tmp 5), none⟩, ⟨some 154, .call (.func 9) [(.tmp 153)], none⟩, ⟨some 155, .mv (.tmp 6), none⟩,
    ⟨some 156, .call (.func 9) [(.tmp 155)], none⟩, ⟨some 157, .mv (.tmp 1), none⟩, ⟨some 158, .call (.func 8) [(.tmp 154), (.tmp 156), (.tmp 157)], none⟩, ⟨some 152, .mv (.tmp
    158), none⟩, ⟨some 159, .ext (.tmp 152) 0, none⟩, ⟨some 160, .ext (.tmp 152) 1, none⟩, ⟨some 161, .ext (.tmp 152) 2, none⟩, ⟨some 14, .alloc [(.slice none 0 0), (.slice none 0
    0)], none⟩, ⟨none, .store 2 (.tmp 14) (.tmp 159), none⟩, ⟨some 15, .mv (.tmp 160), none⟩, ⟨some 16, .mv (.tmp 161), none⟩]) (.seq (.region [⟨some 163, .mv (.tmp 5), none⟩, ⟨some
    164, .call (.func 9) [(.tmp 163)], none⟩, ⟨some 165, .mv (.tmp 6), none⟩, ⟨some 166, .call (.func 9) [(.tmp 165)], none⟩, ⟨some 167, .mv (.tmp 1), none⟩, ⟨some 168, .call (.func
    10) [(.tmp 164), (.tmp 166), (.tmp 167)], none⟩, ⟨some 162, .mv (.tmp 168), none⟩, ⟨some 169, .ext (.tmp 162) 0, none⟩, ⟨some 170, .ext (.tmp 162) 1, none⟩, ⟨some 17, .mv (.tmp
    169), none⟩, ⟨some 18, .mv (.tmp 170), none⟩]) (.seq (.seq (.region [⟨some 171, .mv (.tmp 16), none⟩, ⟨some 172, .bin .neq (.tmp 171) (.const (.int .i64 0)), none⟩, ⟨some 173,
    .mv (.tmp 172), none⟩, ⟨some 174, .mv (.tmp 18), some (173, false)⟩, ⟨some 175, .bin .neq (.tmp 174) (.const (.int .i64 0)), some (173, false)⟩, ⟨some 176, .pick (.tmp 173)
    (.const (.bool true)) (.tmp 175), none⟩, ⟨some 177, .mv (.tmp 176), none⟩, ⟨some 178, .fld 0 (.tmp 14), some (177, false)⟩, ⟨some 179, .load false 1 (.tmp 178), some (177,
    false)⟩, ⟨some 180, .len (.tmp 179), some (177, false)⟩, ⟨some 181, .bin .gtr (.tmp 180) (.const (.int .i64 6)), some (177, false)⟩, ⟨some 182, .pick (.tmp 177) (.const (.bool
    true)) (.tmp 181), none⟩, ⟨some 183, .mv (.tmp 182), none⟩, ⟨some 184, .mv (.tmp 5), some (183, false)⟩, ⟨some 185, .mv (.tmp 6), some (183, false)⟩, ⟨some 186, .fld 0 (.tmp
    14), some (183, false)⟩, ⟨some 187, .load false 1 (.tmp 186), some (183, false)⟩, ⟨some 188, .call (.func 11) [(.tmp 184), (.tmp 185), (.tmp 187)], some (183, false)⟩, ⟨some
    189, .bin .neq (.tmp 188) (.const (.int .i64 0)), some (183, false)⟩, ⟨some 190, .pick (.tmp 183) (.const (.bool true)) (.tmp 189), none⟩, ⟨some 191, .mv (.tmp 190), none⟩,
    ⟨some 192, .mv (.tmp 17), some (191, false)⟩, ⟨some 193, .len (.tmp 192), some (191, false)⟩, ⟨some 194, .bin .gtr (.tmp 193) (.const (.int .i64 12)), some (191, false)⟩, ⟨some
    195, .pick (.tmp 191) (.const (.bool true)) (.tmp 194), none⟩]) (.cond (.tmp 195) (.seq (.region [⟨some 4, .mv (.const (.bool false)), none⟩]) .ret) .skip)) (.seq (.seq
    (.regionD [⟨some 197, .mv (.tmp 5), none⟩, ⟨some 198, .call (.func 9) [(.tmp 197)], none⟩, ⟨some 199, .mv (.tmp 6), none⟩, ⟨some 200, .call (.func 9) [(.tmp 199)], none⟩, ⟨some
    201, .mv (.tmp 1), none⟩, ⟨some 202, .load true 2 (.tmp 14), none⟩, ⟨some 203, .call (.func 13) [(.tmp 202)], none⟩, ⟨some 204, .call (.func 12) [(.tmp 198), (.tmp 200), (.tmp
    201), (.tmp 203)], none⟩, ⟨some 196, .mv (.tmp 204), none⟩, ⟨some 205, .ext (.tmp 196) 0, none⟩, ⟨some 206, .ext (.tmp 196) 1, none⟩, ⟨some 19, .mv (.tmp 205), none⟩, ⟨some 20,
    .mv (.tmp 206), none⟩] [0, 1, 0, 7, 0, 0, 47, 127, 255, 511, 511, 1023, 4095] [0, 1, 2, 3, 4, 5, 6, 7, 8, 9, 10, 11, 12]) (.seq (.region [⟨some 207, .mv (.tmp 20), none⟩, ⟨some
    208, .bin .neq (.tmp 207) (.const (.int .i64 0)), none⟩, ⟨some 209, .mv (.tmp 208), none⟩, ⟨some 210, .mv (.tmp 19), some (209, false)⟩, ⟨some 211, .mv (.tmp 15), some (209,
    false)⟩, ⟨some 212, .bin .neq (.tmp 210) (.tmp 211), some (209, false)⟩, ⟨some 213, .pick (.tmp 209) (.const (.bool true)) (.tmp 212), none⟩]) (.cond (.tmp 213) (.seq (.region
    [⟨some 4, .mv (.const (.bool false)), none⟩]) .ret) .skip))) (.seq (.region [⟨some 21, .mv (.const (.int .i64 0)), none⟩, ⟨some 22, .mv (.const (.int .i64 0)), none⟩]) (.seq
    (.seq (.region [⟨some 23, .mv (.const (.int .i64 0)), none⟩]) (.block 2 (.loop (.seq (.seq (.region [⟨some 214, .mv (.tmp 23), none⟩, ⟨some 215, .mv (.tmp 17), none⟩, ⟨some 216,
    .len (.tmp 215), none⟩, ⟨some 217, .bin .lss (.tmp 214) (.tmp 216), none⟩]) (.cond (.tmp 217) .skip (.exit 2))) (.seq (.block 3 (.seq (.region [⟨some 220, .mv (.tmp 17), none⟩,
    ⟨some 221, .mv (.tmp 23), none⟩, ⟨some 222, .idx 4 (.tmp 220) (.tmp 221), none⟩, ⟨some 223, .fld 0 (.tmp 222), none⟩, ⟨some 224, .load false 1 (.tmp 223), none⟩]) (.block 4
    (.seq (.region [⟨some 310, .bin .eql (.tmp 224) (.const (.int .i64 1)), none⟩, ⟨some 309, .mv (.tmp 310), none⟩]) (.cond (.tmp 309) (.seq (.region [⟨some 311, .mv (.tmp 21),
    none⟩, ⟨some 312, .bin .add (.tmp 311) (.const (.int .i64 1)), none⟩, ⟨some 21, .mv (.tmp 312), none⟩]) (.seq (.regionD [⟨some 313, .mv (.tmp 17), none⟩, ⟨some 314, .mv (.tmp
    23), none⟩, ⟨some 315, .idx 4 (.tmp 313) (.tmp 314), none⟩, ⟨some 316, .fld 2 (.tmp 315), none⟩, ⟨some 317, .load false 1 (.tmp 316), none⟩, ⟨some 318, .bin .neq (.tmp 317)
    (.const (.int .i64 (-1))), none⟩, ⟨some 319, .mv (.tmp 318), none⟩, ⟨some 320, .mv (.tmp 17), some (319, false)⟩, ⟨some 321, .mv (.tmp 23), some (319, false)⟩, ⟨some 322, .idx 4
    (.tmp 320) (.tmp 321), some (319, false)⟩, ⟨some 323, .fld 1 (.tmp 322), some (319, false)⟩, ⟨some 324, .load false 1 (.tmp 323), some (319, false)⟩, ⟨some 325, .mv (.tmp 5),
    some (319, false)⟩, ⟨some 326, .len (.tmp 325), some (319, false)⟩, ⟨some 327, .bin .sub (.tmp 326) (.const (.int .i64 1)), some (319, false)⟩, ⟨some 328, .call (.func 6) [(.tmp
    324), (.const (.int .i64 0)), (.tmp 327)], some (319, false)⟩, ⟨some 329, .un .not (.tmp 328), some (319, false)⟩, ⟨some 330, .pick (.tmp 319) (.const (.bool true)) (.tmp 329),
    none⟩, ⟨some 331, .mv (.tmp 330), none⟩, ⟨some 332, .fld 0 (.tmp 14), some (331, false)⟩, ⟨some 333, .load false 1 (.tmp 332), some (331, false)⟩, ⟨some 334, .mv (.tmp 17), some
    (331, false)⟩, ⟨some 335, .mv (.tmp 23), some (331, false)⟩, ⟨some 336, .idx 4 (.tmp 334) (.tmp 335), some (331, false)⟩, ⟨some 337, .fld 1 (.tmp 336), some (331, false)⟩, ⟨some
    338, .load false 1 (.tmp 337), some (331, false)⟩, ⟨some 339, .call (.func 14) [(.tmp 333), (.const (.int .i64 0)), (.tmp 338)], some (331, false)⟩, ⟨some 340, .pick (.tmp 331)
    (.const (.bool true)) (.tmp 339), none⟩] [0, 0, 3, 7, 15, 31, 63, 127, 127, 511, 1023, 2047, 127, 4223, 12415, 32767, 65535, 131071, 262143, 524287, 1048575, 524287, 524287,
    6815743, 15204351, 31981567, 67108863, 134217727] [0, 1, 2, 3, 4, 5, 6, 7, 8, 9, 10, 11, 12, 13, 14, 15, 16, 17, 18, 19, 20, 21, 22, 23, 24, 25, 26, 27]) (.cond (.tmp 340) (.seq
    (.region [⟨some 4, .mv (.const (.bool false)), none⟩]) .ret) .skip))) (.seq (.region [⟨some 342, .bin .eql (.tmp 224) (.const (.int .i64 0)), none⟩, ⟨some 341, .mv (.tmp 342),
    none⟩]) (.cond (.tmp 341) (.seq (.region [⟨some 343, .mv (.tmp 22), none⟩, ⟨some 344, .bin .add (.tmp 343) (.const (.int .i64 1)), none⟩, ⟨some 22, .mv (.tmp 344), none⟩]) (.seq
    (.regionD [⟨some 345, .mv (.tmp 17), none⟩, ⟨some 346, .mv (.tmp 23), none⟩, ⟨some 347, .idx 4 (.tmp 345) (.tmp 346), none⟩, ⟨some 348, .fld 1 (.tmp 347), none⟩, ⟨some 349,
    .load false 1 (.tmp 348), none⟩, ⟨some 350, .bin .neq (.tmp 349) (.const (.int .i64 (-1))), none⟩, ⟨some 351, .mv (.tmp 350), none⟩, ⟨some 352, .mv (.tmp 17), some (351,
    false)⟩, ⟨some 353, .mv (.tmp 23), some (351, false)⟩, ⟨some 354, .idx 4 (.tmp 352) (.tmp 353), some (351, false)⟩, ⟨some 355, .fld 2 (.tmp 354), some (351, false)⟩, ⟨some 356,
    .load false 1 (.tmp 355), some (351, false)⟩, ⟨some 357, .mv (.tmp 6), some (351, false)⟩, ⟨some 358, .len (.tmp 357), some (351, false)⟩, ⟨some 359, .bin .sub (.tmp 358)
    (.const (.int .i64 1)), some (351, false)⟩, ⟨some 360, .call (.func 6) [(.tmp 356), (.const (.int .i64 0)), (.tmp 359)], some (351, false)⟩, ⟨some 361, .un .not (.tmp 360), some
    (351, false)⟩, ⟨some 362, .pick (.tmp 351) (.const (.bool true)) (.tmp 361), none⟩, ⟨some 363, .mv (.tmp 362), none⟩, ⟨some 364, .fld 0 (.tmp 14), some (363, false)⟩, ⟨some 365,
    .load false 1 (.tmp 364), some (363, false)⟩, ⟨some 366, .mv (.tmp 17), some (363, false)⟩, ⟨some 367, .mv (.tmp 23), some (363, false)⟩, ⟨some 368, .idx 4 (.tmp 366) (.tmp
    367), some (363, false)⟩, ⟨some 369, .fld 2 (.tmp 368), some (363, false)⟩, ⟨some 370, .load false 1 (.tmp 369), some (363, false)⟩, ⟨some 371, .call (.func 14) [(.tmp 365),
    (.const (.int .i64 1)), (.tmp 370)], some (363, false)⟩, ⟨some 372, .pick (.tmp 363) (.const (.bool true)) (.tmp 371), none⟩] [0, 0, 3, 7, 15, 31, 63, 127, 127, 511, 1023, 2047,
    127, 4223, 12415, 32767, 65535, 131071, 262143, 524287, 1048575, 524287, 524287, 6815743, 15204351, 31981567, 67108863, 134217727] [0, 1, 2, 3, 4, 5, 6, 7, 8, 9, 10, 11, 12, 13,
    14, 15, 16, 17, 18, 19, 20, 21, 22, 23, 24, 25, 26, 27]) (.cond (.tmp 372) (.seq (.region [⟨some 4, .mv (.const (.bool false)), none⟩]) .ret) .skip))) (.seq (.seq (.region
    [⟨some 225, .mv (.tmp 17), none⟩, ⟨some 226, .mv (.tmp 23), none⟩, ⟨some 227, .idx 4 (.tmp 225) (.tmp 226), none⟩, ⟨some 228, .fld 1 (.tmp 227), none⟩, ⟨some 229, .load false 1
    (.tmp 228), none⟩, ⟨some 230, .mv (.tmp 5), none⟩, ⟨some 231, .len (.tmp 230), none⟩, ⟨some 232, .bin .sub (.tmp 231) (.const (.int .i64 1)), none⟩, ⟨some 233, .call (.func 6)
    [(.tmp 229), (.const (.int .i64 0)), (.tmp 232)], none⟩, ⟨some 234, .un .not (.tmp 233), none⟩, ⟨some 235, .mv (.tmp 234), none⟩, ⟨some 236, .mv (.tmp 17), some (235, false)⟩,
    ⟨some 237, .mv (.tmp 23), some (235, false)⟩, ⟨some 238, .idx 4 (.tmp 236) (.tmp 237), some (235, false)⟩, ⟨some 239, .fld 2 (.tmp 238), some (235, false)⟩, ⟨some 240, .load
    false 1 (.tmp 239), some (235, false)⟩, ⟨some 241, .mv (.tmp 6), some (235, false)⟩, ⟨some 242, .len (.tmp 241), some (235, false)⟩, ⟨some 243, .bin .sub (.tmp 242) (.const
    (.int .i64 1)), some (235, false)⟩, ⟨some 244, .call (.func 6) [(.tmp 240), (.const (.int .i64 0)), (.tmp 243)], some (235, false)⟩, ⟨some 245, .un .not (.tmp 244), some (235,
    false)⟩, ⟨some 246, .pick (.tmp 235) (.const (.bool true)) (.tmp 245), none⟩, ⟨some 247, .mv (.tmp 246), none⟩, ⟨some 248, .mv (.tmp 17), some (247, false)⟩, ⟨some 249, .mv
    (.tmp 23), some (247, false)⟩, ⟨some 250, .idx 4 (.tmp 248) (.tmp 249), some (247, false)⟩, ⟨some 251, .fld 3 (.tmp 250), some (247, false)⟩, ⟨some 252, .load false 1 (.tmp
    251), some (247, false)⟩, ⟨some 253, .bin .leq (.tmp 252) (.const (.int .i64 0)), some (247, false)⟩, ⟨some 254, .pick (.tmp 247) (.const (.bool true)) (.tmp 253), none⟩])
    (.cond (.tmp 254) (.seq (.region [⟨some 4, .mv (.const (.bool false)), none⟩]) .ret) .skip)) (.seq (.regionD [⟨some 255, .mv (.tmp 8), none⟩, ⟨some 256, .mv (.tmp 17), none⟩,
    ⟨some 257, .mv (.tmp 23), none⟩, ⟨some 258, .idx 4 (.tmp 256) (.tmp 257), none⟩, ⟨some 259, .fld 2 (.tmp 258), none⟩, ⟨some 260, .load false 1 (.tmp 259), none⟩, ⟨some 261, .idx
    1 (.tmp 255) (.tmp 260), none⟩, ⟨some 262, .load false 1 (.tmp 261), none⟩, ⟨some 263, .mv (.tmp 7), none⟩, ⟨some 264, .mv (.tmp 17), none⟩, ⟨some 265, .mv (.tmp 23), none⟩,
    ⟨some 266, .idx 4 (.tmp 264) (.tmp 265), none⟩, ⟨some 267, .fld 1 (.tmp 266), none⟩, ⟨some 268, .load false 1 (.tmp 267), none⟩, ⟨some 269, .idx 1 (.tmp 263) (.tmp 268), none⟩,
    ⟨some 270, .load false 1 (.tmp 269), none⟩, ⟨some 271, .bin .sub (.tmp 262) (.tmp 270), none⟩, ⟨some 24, .mv (.tmp 271), none⟩] [0, 0, 0, 6, 14, 30, 63, 127, 0, 0, 0, 1536,
    3584, 7680, 16128, 32512, 65535, 131071] [0, 1, 2, 3, 4, 5, 6, 7, 8, 9, 10, 11, 12, 13, 14, 15, 16, 17]) (.seq (.regionD [⟨some 272, .mv (.tmp 17), none⟩, ⟨some 273, .mv (.tmp
    23), none⟩, ⟨some 274, .idx 4 (.tmp 272) (.tmp 273), none⟩, ⟨some 275, .fld 0 (.tmp 274), none⟩, ⟨some 276, .load false 1 (.tmp 275), none⟩, ⟨some 277, .bin .eql (.tmp 276)
    (.const (.int .i64 2)), none⟩, ⟨some 278, .mv (.tmp 277), none⟩, ⟨some 279, .mv (.tmp 24), some (278, true)⟩, ⟨some 280, .mv (.tmp 17), some (278, true)⟩, ⟨some 281, .mv (.tmp
    23), some (278, true)⟩, ⟨some 282, .idx 4 (.tmp 280) (.tmp 281), some (278, true)⟩, ⟨some 283, .fld 3 (.tmp 282), some (278, true)⟩, ⟨some 284, .load false 1 (.tmp 283), some
    (278, true)⟩, ⟨some 285, .bin .geq (.tmp 279) (.tmp 284), some (278, true)⟩, ⟨some 286, .pick (.tmp 278) (.tmp 285) (.const (.bool false)), none⟩, ⟨some 287, .mv (.tmp 17),
    none⟩, ⟨some 288, .mv (.tmp 23), none⟩, ⟨some 289, .idx 4 (.tmp 287) (.tmp 288), none⟩, ⟨some 290, .fld 0 (.tmp 289), none⟩, ⟨some 291, .load false 1 (.tmp 290), none⟩, ⟨some
    292, .bin .eql (.tmp 291) (.const (.int .i64 3)), none⟩, ⟨some 293, .mv (.tmp 292), none⟩, ⟨some 294, .mv (.tmp 24), some (293, true)⟩, ⟨some 295, .un .neg (.tmp 294), some
    (293, true)⟩, ⟨some 296, .mv (.tmp 17), some (293, true)⟩, ⟨some 297, .mv (.tmp 23), some (293, true)⟩, ⟨some 298, .idx 4 (.tmp 296) (.tmp 297), some (293, true)⟩, ⟨some 299,
    .fld 3 (.tmp 298), some (293, true)⟩, ⟨some 300, .load false 1 (.tmp 299), some (293, true)⟩, ⟨some 301, .bin .geq (.tmp 295) (.tmp 300), some (293, true)⟩, ⟨some 302, .pick
    (.tmp 293) (.tmp 301) (.const (.bool false)), none⟩, ⟨some 25, .mv (.tmp 286), none⟩, ⟨some 26, .mv (.tmp 302), none⟩] [0, 0, 3, 7, 15, 31, 63, 127, 127, 127, 895, 1919, 3967,
    8191, 16383, 0, 0, 98304, 229376, 491520, 1015808, 2064511, 4161663, 8355967, 4161663, 4161663, 54493311, 121602175, 255819903, 536838271, 1073709183, 4194303, 4294967295] [0,
    1, 2, 3, 4, 5, 6, 7, 8, 9, 10, 11, 12, 13, 14, 15, 16, 17, 18, 19, 20, 21, 22, 23, 24, 25, 26, 27, 28, 29, 30, 31, 32]) (.seq (.region [⟨some 303, .mv (.tmp 25), none⟩, ⟨some
    304, .un .not (.tmp 303), none⟩, ⟨some 305, .mv (.tmp 304), none⟩, ⟨some 306, .mv (.tmp 26), some (305, true)⟩, ⟨some 307, .un .not (.tmp 306), some (305, true)⟩, ⟨some 308,
    .pick (.tmp 305) (.tmp 307) (.const (.bool false)), none⟩]) (.cond (.tmp 308) (.seq (.region [⟨some 4, .mv (.const (.bool false)), none⟩]) .ret) .skip)))))))))))) (.region
    [⟨some 218, .mv (.tmp 23), none⟩, ⟨some 219, .bin .add (.tmp 218) (.const (.int .i64 1)), none⟩, ⟨some 23, .mv (.tmp 219), none⟩])))))) (.seq (.region [⟨some 373, .mv (.tmp 21),
    none⟩, ⟨some 374, .mv (.tmp 5), none⟩, ⟨some 375, .len (.tmp 374), none⟩, ⟨some 376, .fld 0 (.tmp 14), none⟩, ⟨some 377, .load false 1 (.tmp 376), none⟩, ⟨some 378, .len (.tmp
    377), none⟩, ⟨some 379, .bin .sub (.tmp 375) (.tmp 378), none⟩, ⟨some 380, .bin .eql (.tmp 373) (.tmp 379), none⟩, ⟨some 381, .mv (.tmp 380), none⟩, ⟨some 382, .mv (.tmp 22),
    some (381, true)⟩, ⟨some 383, .mv (.tmp 6), some (381, true)⟩, ⟨some 384, .len (.tmp 383), some (381, true)⟩, ⟨some 385, .fld 0 (.tmp 14), some (381, true)⟩, ⟨some 386, .load
    false 1 (.tmp 385), some (381, true)⟩, ⟨some 387, .len (.tmp 386), some (381, true)⟩, ⟨some 388, .bin .sub (.tmp 384) (.tmp 387), some (381, true)⟩, ⟨some 389, .bin .eql (.tmp
    382) (.tmp 388), some (381, true)⟩, ⟨some 390, .pick (.tmp 381) (.tmp 389) (.const (.bool false)), none⟩, ⟨some 4, .mv (.tmp 390), none⟩]) .ret))))))))))))))
theorem low3w : lowF Try.prog [84, 114, 118, 147, 151] Try.f3 = some (391, lc3w.strip, [.tmp 4]) := by kernel_rfl
theorem fn3w : FnOk Try.prog 3 391 lc3w [.tmp 4] := ⟨Try.call3, [84, 114, 118, 147, 151], _, Try.func3, low3w⟩
end Go.Pw

set_option linter.unusedSimpArgs false
set_option linter.unusedVariables false
set_option maxHeartbeats 4000000
namespace Go.Pw
set_option maxRecDepth 2000
open Go Go.Proofs A1 A2 A3 A4
abbrev fdD (x : Fd) : List D := [dI x.1, dI x.2.1, dI x.2.2.1, dI x.2.2.2.1, dI x.2.2.2.2.1, dI x.2.2.2.2.2]
abbrev fds (l : List Fd) : C := slv 6 fdD fd0 l
abbrev fdR (x : Fd) : Prop := R64 x.1 ∧ R64 x.2.1 ∧ R64 x.2.2.1 ∧ R64 x.2.2.2.1 ∧ R64 x.2.2.2.2.1 ∧ R64 x.2.2.2.2.2
theorem C13 {s : Int} {A B : List Ft} : SvB A B s → PFD Try.prog 13 [mtv s A B] (mtv s A B) := fun hS => by
  have h1 := mtP_len (s := s) A.length A B
  have ha := hS.a
  have hb := hS.b
  have c44 := C44 (l := pI (mtP s A.length A B)) (by rw [pI_len]; omega)
  have c45 := C45 (L := ptL s A B (A.length + 1)) ⟨by rw [ptL_len]; omega, fun l hl => by rw [ptL_all l hl]; omega⟩
  refine pi1 fn13 ?_
  (repeat' first | (refine Owe.same ?_; first | refine Owe.o ?_ | refine Owe.mk ?_ ?_) | (refine Fork.same ?_; (first | refine fkY ?_ | refine fkF ?_ | ((first | refine fkD ?_ ?_ | refine fkN ?_ ?_ | refine fkM ?_ ?_) <;> intro h))) | ((first | refine OpsL.same ?_ | refine OpsDL.same ?_); first | refine oK c44 rfl rfl rfl ?_ | refine oK c45 rfl rfl rfl ?_) | refine MvQ.stay ?_)
  (refine rqK rfl ?_; (repeat' first | exact rfl | (refine qS ?_; constructor)))
theorem C3 {l : List Fd} {s : Int} (hl : ∀ x ∈ l, fdR x) : PFD Try.prog 3 [.c (fds l), vi .i64 s] (vbl true) := by
  have c6s := C6 (n := s) (lo := 0) (hi := 100000)
  by_cases hn : l.length ≤ 6
  rotate_left
  · refine pi1 fn3w ?_
    (repeat' first | (refine Owe.same ?_; first | refine Owe.o ?_ | refine Owe.mk ?_ ?_) | (refine Fork.same ?_; (first | refine fkY ?_ | refine fkF ?_ | ((first | refine fkD ?_ ?_ | refine fkN ?_ ?_ | refine fkM ?_ ?_) <;> (intro h; try (exfalso; omega))))) | ((first | refine OpsL.same ?_ | refine OpsDL.same ?_); first | refine oK C5 rfl rfl rfl ?_) | refine MvQ.stay ?_)
    (refine rqK rfl ?_; (repeat' first | exact rfl | (refine qS ?_; constructor)))
  by_cases hs : 0 ≤ s ∧ s ≤ 100000
  rotate_left
  · rw [decide_eq_false hs] at c6s
    refine pi1 fn3w ?_
    (repeat' first | (refine Owe.same ?_; first | refine Owe.o ?_ | refine Owe.mk ?_ ?_) | (refine Fork.same ?_; (first | refine fkY ?_ | refine fkF ?_ | ((first | refine fkD ?_ ?_ | refine fkN ?_ ?_ | refine fkM ?_ ?_) <;> (intro h; try (exfalso; omega))))) | ((first | refine OpsL.same ?_ | refine OpsDL.same ?_); first | refine oK C5 rfl rfl rfl ?_ | refine oK c6s rfl rfl rfl ?_) | refine MvQ.stay ?_)
    (refine rqK rfl ?_; (repeat' first | exact rfl | (refine qS ?_; constructor)))
  rw [decide_eq_true hs] at c6s
  refine pi1 fn3w ?_
  (repeat' first | (refine Owe.same ?_; first | refine Owe.o ?_ | refine Owe.mk ?_ ?_) | (refine Fork.same ?_; (first | refine fkY ?_ | refine fkF ?_ | ((first | refine fkD ?_ ?_ | refine fkN ?_ ?_ | refine fkM ?_ ?_) <;> (intro h; try (exfalso; omega))))) | ((first | refine OpsL.same ?_ | refine OpsDL.same ?_); first | refine oK C5 rfl rfl rfl ?_ | refine oK c6s rfl rfl rfl ?_) | refine MvQ.stay ?_)
  refine Sat.nilS 5 33 5 (fun i => ftD (([] : List Ft).getD i ft0)) rfl ?_
  refine Sat.nilS 6 33 5 (fun i => ftD (([] : List Ft).getD i ft0)) rfl ?_
  refine Sat.nilS 7 3 1 (fun i => r1 (([] : List Int).getD i 0)) rfl ?_
  refine Sat.nilS 8 3 1 (fun i => r1 (([] : List Int).getD i 0)) rfl ?_
  refine Sat.lp (fun k : Nat => ⟨[(10, vi .i64 k), (9, vi .i64 (syL (l.take k)).at_), (5, .c (.ms 0 (syL (l.take k)).a.length)), (6, .c (.ms 1 (syL (l.take k)).b.length)), (7, .c (.ms 2 (syL (l.take k)).bf.length)), (8, .c (.ms 3 (syL (l.take k)).af.length)), (0, .c (fds l)), (1, vi .i64 s)],
      [(0, rowv 33 5 ftD ft0 (syL (l.take k)).a), (1, rowv 33 5 ftD ft0 (syL (l.take k)).b), (2, rowv 3 1 r1 0 (syL (l.take k)).bf), (3, rowv 3 1 r1 0 (syL (l.take k)).af)], 4⟩)
    (fun k => k ≤ l.length) (fun k => l.length - k) 0 [0, 1, 2, 3] (Nat.zero_le _) ?_ ?_
  · (refine qis ?_ ?_ <;> (repeat' first | exact rfl | (refine qS ?_; constructor)))
  intro k hk
  have hO := syOk k hk hn
  refine Fork.dec (fun hlt => ?_) (fun hlt => ?_)
  · have hlt : k < l.length := by omega
    have et := syL_take hlt
    have hx := hl _ (getD_mem fd0 hlt)
    generalize syL (l.take k) = st at *
    obtain ⟨⟨p1, p2⟩, ha, hb⟩ := hO
    have la := ha.n
    have lb := hb.n
    have lc := ha.len
    have ld := hb.len
    obtain ⟨x, ex⟩ : ∃ x, x = l.getD (k : Int).toNat fd0 := ⟨_, rfl⟩
    have ex' : l.getD k fd0 = x := ex.symm
    rw [ex'] at et hx
    obtain ⟨r1', r2', r3, r4, r5, r6⟩ := hx
    have c7a : ∀ b, 0 < b ∧ b ≤ 1000000 → PFD Try.prog 7 [vi .i64 x.1, vi .i64 b] (vi .i64 (x.1 % b)) := fun b hb => C7 ⟨r1', hb⟩
    have c7b : ∀ b, 0 < b ∧ b ≤ 1000000 → PFD Try.prog 7 [vi .i64 x.2.1, vi .i64 b] (vi .i64 (x.2.1 % b)) := fun b hb => C7 ⟨r2', hb⟩
    have c7c : ∀ b, 0 < b ∧ b ≤ 1000000 → PFD Try.prog 7 [vi .i64 x.2.2.1, vi .i64 b] (vi .i64 (x.2.2.1 % b)) := fun b hb => C7 ⟨r3, hb⟩
    have c7e : ∀ b, 0 < b ∧ b ≤ 1000000 → PFD Try.prog 7 [vi .i64 x.2.2.2.2.1, vi .i64 b] (vi .i64 (x.2.2.2.2.1 % b)) := fun b hb => C7 ⟨r5, hb⟩
    have c7w : ∀ b, 0 < b ∧ b ≤ 1000000 → PFD Try.prog 7 [vi .i64 (IntKind.i64.wrap (x.2.2.1 + x.2.2.2.1)), vi .i64 b] (vi .i64 (IntKind.i64.wrap (x.2.2.1 + x.2.2.2.1) % b)) := fun b hb => C7 ⟨wrap_R _, hb⟩
    rw [ex] at c7a c7b c7c c7e c7w
    have m1 := md x.1 20 (by decide)
    have m2 := md x.2.2.2.2.1 5 (by decide)
    have m3 := md x.2.1 3 (by decide)
    have m4 := md x.2.2.2.2.1 7 (by decide)
    have m5 := md x.2.2.2.2.1 4 (by decide)
    have m6 := md x.2.2.2.2.1 3 (by decide)
    have m7 := md x.2.2.2.2.1 6 (by decide)
    have m8 := md x.2.2.1 100 (by decide)
    have m9 := md (IntKind.i64.wrap (x.2.2.1 + x.2.2.2.1)) 100 (by decide)
    rw [ex] at m1 m2 m3 m4 m5 m6 m7 m8 m9
    (repeat' first | (refine Owe.same ?_; first | refine Owe.o ?_ | refine Owe.mk ?_ ?_) | (refine Fork.same ?_; (first | refine fkY ?_ | refine fkF ?_ | ((first | refine fkD ?_ ?_ | refine fkN ?_ ?_ | refine fkM ?_ ?_) <;> (intro h; try (exfalso; omega))))) | ((first | refine OpsL.same ?_ | refine OpsDL.same ?_); first | refine oK (c7a 20 (by decide)) rfl rfl rfl ?_ | refine oK (c7b 3 (by decide)) rfl rfl rfl ?_ | refine oK (c7c 100 (by decide)) rfl rfl rfl ?_ | refine oK (c7w 100 (by decide)) rfl rfl rfl ?_ | refine oK (c7e 5 (by decide)) rfl rfl rfl ?_ | refine oK (c7e 7 (by decide)) rfl rfl rfl ?_ | refine oK (c7e 4 (by decide)) rfl rfl rfl ?_ | refine oK (c7e 3 (by decide)) rfl rfl rfl ?_ | refine oK (c7e 6 (by decide)) rfl rfl rfl ?_) | refine MvQ.stay ?_)
    · have e1 : syL (l.take (k + 1)) = ⟨st.at_ + x.1 % 20, st.a ++ [ftP (st.at_ + x.1 % 20) x], st.b ++ [ftQ (st.at_ + x.1 % 20) x], st.bf ++ [oldS x], st.af ++ [nowS x]⟩ := by
        rw [et]; simp only [syS, if_pos (show x.2.2.2.2.2 ≠ 1 by rw [ex]; assumption), if_pos (show x.2.2.2.2.2 ≠ 2 by rw [ex]; assumption)]
      refine again (k + 1) [57, 77, 58, 78] hlt (by omega) ?_
      rw [e1, ex]
      (refine qis ?_ ?_ <;> (repeat' first | exact rfl | (refine qS ?_; constructor)))
      all_goals first
        | (simp only [List.length_append]; rfl)
        | exact ⟨_, rfl, rfl⟩
        | rfl
    · have e1 : syL (l.take (k + 1)) = ⟨st.at_ + x.1 % 20, st.a ++ [ftP (st.at_ + x.1 % 20) x], st.b, st.bf ++ [oldS x], st.af⟩ := by
        rw [et]; simp only [syS, if_pos (show x.2.2.2.2.2 ≠ 1 by rw [ex]; assumption), if_neg (show ¬ x.2.2.2.2.2 ≠ 2 by rw [ex]; simpa using h), List.append_nil]
      refine again (k + 1) [57, 1, 58, 3] hlt (by omega) ?_
      rw [e1, ex]
      (refine qis ?_ ?_ <;> (repeat' first | exact rfl | (refine qS ?_; constructor)))
      all_goals first
        | (simp only [List.length_append]; rfl)
        | exact ⟨_, rfl, rfl⟩
        | rfl
    · have e1 : syL (l.take (k + 1)) = ⟨st.at_ + x.1 % 20, st.a, st.b ++ [ftQ (st.at_ + x.1 % 20) x], st.bf, st.af ++ [nowS x]⟩ := by
        rw [et]; simp only [syS, if_neg (show ¬ x.2.2.2.2.2 ≠ 1 by rw [ex]; simpa using h), if_pos (show x.2.2.2.2.2 ≠ 2 by rw [ex, h]; decide), List.append_nil]
      refine again (k + 1) [0, 57, 2, 58] hlt (by omega) ?_
      rw [e1, ex]
      (refine qis ?_ ?_ <;> (repeat' first | exact rfl | (refine qS ?_; constructor)))
      all_goals first
        | (simp only [List.length_append]; rfl)
        | exact ⟨_, rfl, rfl⟩
        | rfl
  · have : k = l.length := by omega
    subst this
    rw [List.take_length] at hO ⊢
    generalize syL l = st at *
    obtain ⟨p, A, B, bf, af⟩ := st
    obtain ⟨hp, hA, hB⟩ := hO
    simp only at hp hA hB ⊢
    have lA := hA.n
    have lB := hB.n
    have h3 : FtsOk A ∧ FtsOk B ∧ 0 ≤ s ∧ s ≤ 100000 := ⟨hA.ok, hB.ok, hs⟩
    have hS := hA.ok.sv hB.ok hs
    have c9a := C9 (l := A) (by omega)
    have c9b := C9 (l := B) (by omega)
    have c8 : PFD Try.prog 8 [.c (fts A), .c (fts B), vi .i64 s] (.tup [.agg [prs (pI (mtP s A.length A B)), ils (ptL s A B (A.length + 1))], vi .i64 (csT s A B), vi .i64 0]) := C8 h3
    have c10 : PFD Try.prog 10 [.c (fts A), .c (fts B), vi .i64 s] (.tup [.c (chs (chX A B (mtP s A.length A B) A.length B.length)), vi .i64 0]) := C10 h3
    have c12 : PFD Try.prog 12 [.c (fts A), .c (fts B), vi .i64 s, .agg [prs (pI (mtP s A.length A B)), ils (ptL s A B (A.length + 1))]] (.tup [vi .i64 (csT s A B), vi .i64 0]) := C12 h3
    have c13 : PFD Try.prog 13 [.agg [prs (pI (mtP s A.length A B)), ils (ptL s A B (A.length + 1))]] (.agg [prs (pI (mtP s A.length A B)), ils (ptL s A B (A.length + 1))]) := C13 hS
    have hok := mtP_ok (s := s) A.length A B
    have hM1 := mtP_len (s := s) A.length A B
    have hM2 : (mtP s A.length A B).length ≤ B.length := asc_len (fun p => p.2) (hok.asc.imp fun h => h.2) fun p hp => (hok.rng p hp).2.1
    have c11 := C11 (M := mtP s A.length A B) ⟨hok, by omega, by omega, by omega⟩
    have hX := chX_ok hA hB hok
    have hXl := chX_len (A := A) (B := B) (M := mtP s A.length A B) (i := A.length) (k := B.length)
    have hX1 := lost_n hok
    have hX0 := new_n hok
    generalize mtP s A.length A B = M at *
    generalize ptL s A B (A.length + 1) = L at *
    generalize csT s A B = cost at *
    generalize chX A B M A.length B.length = X at *
    have hpl := pI_len (l := M)
    (repeat' first | (refine Owe.same ?_; first | refine Owe.o ?_ | refine Owe.mk ?_ ?_) | (refine Fork.same ?_; (first | refine fkD ?_ ?_ | refine fkN ?_ ?_ | refine fkM ?_ ?_) <;> (intro h; try (exfalso; omega))))
    refine MvQ.frz 5 0 rfl rfl (Nat.le_refl _) ?_
    refine MvQ.frz 6 1 rfl rfl (Nat.le_refl _) ?_
    refine MvQ.frz 7 2 rfl rfl (Nat.le_refl _) ?_
    refine MvQ.frz 8 3 rfl rfl (Nat.le_refl _) ?_
    (repeat' first | (refine Owe.same ?_; first | refine Owe.o ?_ | refine Owe.mk ?_ ?_) | (refine Fork.same ?_; (first | refine fkY ?_ | refine fkF ?_ | ((first | refine fkD ?_ ?_ | refine fkN ?_ ?_ | refine fkM ?_ ?_) <;> (intro h; try (exfalso; omega))))) | ((first | refine OpsL.same ?_ | refine OpsDL.same ?_); first | refine oK c9a rfl rfl rfl ?_ | refine oK c9b rfl rfl rfl ?_ | refine oK c8 rfl rfl rfl ?_ | refine oK c10 rfl rfl rfl ?_ | refine oK c11 rfl rfl rfl ?_ | refine oK c13 rfl rfl rfl ?_ | refine oK c12 rfl rfl rfl ?_) | refine MvQ.stay ?_)
    refine Sat.lp (fun j : Nat => ⟨[(23, vi .i64 j), (17, .c (chs X)), (21, vi .i64 ((X.take j).countP (isK 1) : Nat)), (22, vi .i64 ((X.take j).countP (isK 0) : Nat)), (5, .c (fts A)), (6, .c (fts B)), (7, .c (ints bf)), (8, .c (ints af)), (14, .c (.bp 0 0))], [(0, .box [prs (pI M), ils L])], 1⟩)
      (fun j => j ≤ X.length) (fun j => X.length - j) 0 [4] (Nat.zero_le _) ?_ ?_
    · (refine qis ?_ ?_ <;> (repeat' first | exact rfl | (refine qS ?_; constructor)))
    intro j hj
    have q1 := List.countP_le_length (p := isK 1) (l := X.take j)
    have q0 := List.countP_le_length (p := isK 0) (l := X.take j)
    have ql : (X.take j).length ≤ X.length := by rw [List.length_take]; omega
    refine Fork.dec (fun hlt => ?_) (fun hlt => ?_)
    · have hlt : j < X.length := by omega
      have t1 := cnt_take (n := 1) hlt
      have t0 := cnt_take (n := 0) hlt
      obtain ⟨c, hc⟩ : ∃ c, c = X.getD (j : Int).toNat ch0 := ⟨_, rfl⟩
      have hc' : X.getD j ch0 = c := hc.symm
      rw [hc'] at t1 t0
      rcases hX c (by rw [hc]; exact getD_mem ch0 hlt) with ⟨i, e, hi, hp⟩ | ⟨k, e, hk, hp⟩ | ⟨i, k, n, e, n1, n2, hi, hk⟩
      · have e1 : c.1 = 1 := by rw [e]
        have e2 : c.2.1 = i := by rw [e]
        have e3 : c.2.2.1 = -1 := by rw [e]
        have c6 := C6 (n := c.2.1) (lo := 0) (hi := (A.length : Int) - 1)
        rw [decide_eq_true (by omega)] at c6
        have c14 : PFD Try.prog 14 [.c (prs (pI M)), vi .i64 0, vi .i64 c.2.1] (vbl false) := by
          have h := C14 (l := pI M) (n := c.2.1) (j := 0) (by decide) (by omega)
          rw [show ((pI M).any fun p => decide ((if 0 = 0 then p.1 else p.2) = c.2.1)) = false by
            rw [List.any_eq_false]
            intro p hp'
            obtain ⟨r, hr, rfl⟩ := List.mem_map.1 hp'
            have := hp r hr
            simp only [if_pos]
            rw [decide_eq_true_eq, e2]; omega] at h
          exact h
        rw [if_pos e1] at t1
        rw [if_neg (by omega)] at t0
        rw [hc] at e1 e2 e3 c6 c14
        (repeat' first | (refine Owe.same ?_; first | refine Owe.o ?_ | refine Owe.mk ?_ ?_) | (refine Fork.same ?_; (first | refine fkY ?_ | refine fkF ?_ | ((first | refine fkD ?_ ?_ | refine fkN ?_ ?_ | refine fkM ?_ ?_) <;> (intro h; try (exfalso; omega))))) | ((first | refine OpsL.same ?_ | refine OpsDL.same ?_); first | refine oK c6 rfl rfl rfl ?_ | refine oK c14 rfl rfl rfl ?_) | refine MvQ.stay ?_)
        refine again (j + 1) [0] hlt (by omega) ?_
        (refine qis ?_ ?_ <;> (repeat' first | exact rfl | (refine qS ?_; constructor)))
        all_goals omega
      · have e1 : c.1 = 0 := by rw [e]
        have e2 : c.2.1 = -1 := by rw [e]
        have e3 : c.2.2.1 = k := by rw [e]
        have c6 := C6 (n := c.2.2.1) (lo := 0) (hi := (B.length : Int) - 1)
        rw [decide_eq_true (by omega)] at c6
        have c14 : PFD Try.prog 14 [.c (prs (pI M)), vi .i64 1, vi .i64 c.2.2.1] (vbl false) := by
          have h := C14 (l := pI M) (n := c.2.2.1) (j := 1) (by decide) (by omega)
          rw [show ((pI M).any fun p => decide ((if 1 = 0 then p.1 else p.2) = c.2.2.1)) = false by
            rw [List.any_eq_false]
            intro p hp'
            obtain ⟨r, hr, rfl⟩ := List.mem_map.1 hp'
            have := hp r hr
            rw [if_neg (by decide), decide_eq_true_eq, e3]; omega] at h
          exact h
        rw [if_neg (by omega)] at t1
        rw [if_pos e1] at t0
        rw [hc] at e1 e2 e3 c6 c14
        (repeat' first | (refine Owe.same ?_; first | refine Owe.o ?_ | refine Owe.mk ?_ ?_) | (refine Fork.same ?_; (first | refine fkY ?_ | refine fkF ?_ | ((first | refine fkD ?_ ?_ | refine fkN ?_ ?_ | refine fkM ?_ ?_) <;> (intro h; try (exfalso; omega))))) | ((first | refine OpsL.same ?_ | refine OpsDL.same ?_); first | refine oK c6 rfl rfl rfl ?_ | refine oK c14 rfl rfl rfl ?_) | refine MvQ.stay ?_)
        refine again (j + 1) [0] hlt (by omega) ?_
        (refine qis ?_ ?_ <;> (repeat' first | exact rfl | (refine qS ?_; constructor)))
        all_goals omega
      · have e2 : c.2.1 = i := by rcases e with ⟨e, _⟩ | ⟨e, _⟩ <;> rw [e]
        have e3 : c.2.2.1 = k := by rcases e with ⟨e, _⟩ | ⟨e, _⟩ <;> rw [e]
        have e4 : c.2.2.2 = n := by rcases e with ⟨e, _⟩ | ⟨e, _⟩ <;> rw [e]
        have e1 : (c.1 = 2 ∧ n ≤ af.getD k 0 - bf.getD i 0) ∨ (c.1 = 3 ∧ n ≤ bf.getD i 0 - af.getD k 0) := by
          rcases e with ⟨e, h⟩ | ⟨e, h⟩
          · exact .inl ⟨by rw [e], h⟩
          · exact .inr ⟨by rw [e], h⟩
        have c6a := C6 (n := c.2.1) (lo := 0) (hi := (A.length : Int) - 1)
        rw [decide_eq_true (by omega)] at c6a
        have c6b := C6 (n := c.2.2.1) (lo := 0) (hi := (B.length : Int) - 1)
        rw [decide_eq_true (by omega)] at c6b
        have s1 := hA.len
        have s2 := hB.len
        have g1 : af.getD c.2.2.1.toNat 0 = af.getD k 0 := by rw [e3]; rfl
        have g2 : bf.getD c.2.1.toNat 0 = bf.getD i 0 := by rw [e2]; rfl
        have b1 := hA.bd i hi
        have b2 := hB.bd k hk
        rw [if_neg (by omega)] at t1
        rw [if_neg (by omega)] at t0
        rw [hc] at e1 e2 e3 e4 c6a c6b g1 g2
        rcases e1 with ⟨e1, e5⟩ | ⟨e1, e5⟩
        · (repeat' first | (refine Owe.same ?_; first | refine Owe.o ?_ | refine Owe.mk ?_ ?_) | (refine Fork.same ?_; (first | refine fkY ?_ | refine fkF ?_ | ((first | refine fkD ?_ ?_ | refine fkN ?_ ?_ | refine fkM ?_ ?_) <;> (intro h; try (exfalso; omega))))) | ((first | refine OpsL.same ?_ | refine OpsDL.same ?_); first | refine oK c6a rfl rfl rfl ?_ | refine oK c6b rfl rfl rfl ?_) | refine MvQ.stay ?_)
          all_goals first
            | (simp only [R64]; omega)
            | (refine again (j + 1) [0] hlt (by omega) ?_; (refine qis ?_ ?_ <;> (repeat' first | exact rfl | (refine qS ?_; constructor))); all_goals omega)
        · (repeat' first | (refine Owe.same ?_; first | refine Owe.o ?_ | refine Owe.mk ?_ ?_) | (refine Fork.same ?_; (first | refine fkY ?_ | refine fkF ?_ | ((first | refine fkD ?_ ?_ | refine fkN ?_ ?_ | refine fkM ?_ ?_) <;> (intro h; try (exfalso; omega))))) | ((first | refine OpsL.same ?_ | refine OpsDL.same ?_); first | refine oK c6a rfl rfl rfl ?_ | refine oK c6b rfl rfl rfl ?_) | refine MvQ.stay ?_)
          all_goals first
            | (simp only [R64]; omega)
            | (refine again (j + 1) [0] hlt (by omega) ?_; (refine qis ?_ ?_ <;> (repeat' first | exact rfl | (refine qS ?_; constructor))); all_goals omega)
    · have : j = X.length := by omega
      subst this
      rw [List.take_length]
      (repeat' first | (refine Owe.same ?_; first | refine Owe.o ?_ | refine Owe.mk ?_ ?_) | (refine Fork.same ?_; (first | refine fkY ?_ | refine fkF ?_ | ((first | refine fkD ?_ ?_ | refine fkN ?_ ?_ | refine fkM ?_ ?_) <;> (intro h; try (exfalso; omega))))) | ((first | refine OpsL.same ?_ | refine OpsDL.same ?_); first | refine oK C5 rfl rfl rfl ?_) | refine MvQ.stay ?_)
      (refine rqK rfl ?_; (repeat' first | exact rfl | (refine qS ?_; constructor)))
      exact decide_eq_true (by omega)
end Go.Pw

set_option linter.unusedVariables false
namespace Go.Pw
open Go Go.RowKit
theorem i64_R {n : Int} (h : i64 n) : R64 n := by
  have := w64_i h
  exact this
theorem row6 {ds : List D} (h : OkDs [.int .i64, .int .i64, .int .i64, .int .i64, .int .i64, .int .i64] ds) : ∃ x : Fd, ds = fdD x ∧ fdR x := by
  obtain ⟨d1, e1, rfl, a1, k1⟩ := okDs_cons h
  obtain ⟨d2, e2, rfl, a2, k2⟩ := okDs_cons k1
  obtain ⟨d3, e3, rfl, a3, k3⟩ := okDs_cons k2
  obtain ⟨d4, e4, rfl, a4, k4⟩ := okDs_cons k3
  obtain ⟨d5, e5, rfl, a5, k5⟩ := okDs_cons k4
  obtain ⟨d6, e6, rfl, a6, k6⟩ := okDs_cons k5
  obtain ⟨n1, rfl, b1⟩ := okD_int a1
  obtain ⟨n2, rfl, b2⟩ := okD_int a2
  obtain ⟨n3, rfl, b3⟩ := okD_int a3
  obtain ⟨n4, rfl, b4⟩ := okD_int a4
  obtain ⟨n5, rfl, b5⟩ := okD_int a5
  obtain ⟨n6, rfl, b6⟩ := okD_int a6
  rw [okDs_nil k6]
  exact ⟨(n1, n2, n3, n4, n5, n6), rfl, i64_R b1, i64_R b2, i64_R b3, i64_R b4, i64_R b5, i64_R b6⟩
theorem arg_fds {v : V} (h : Arg false [.sl [.int .i64, .int .i64, .int .i64, .int .i64, .int .i64, .int .i64]] v) : ∃ l : List Fd, RI v (.c (fds l)) ∧ ∀ x ∈ l, fdR x := by
  obtain ⟨d, rfl, h1⟩ := arg_c h
  obtain ⟨l, h2, h3⟩ := okD_list fd0 (fun ds => row6) h1
  exact ⟨l, VEq.ri (.c _ _ h2), h3.2⟩
end Go.Pw

namespace Go.Proofs.Ytailfkllanegeaa
open Go.ChangeShapes Go.WideShapes Go.ChangeAt Go.RowKit Go.Pw
theorem Try.own : ownKnob Try.prog.godebug = none := by kernel_rfl
theorem Try.laidOut : laidOutB Try.prog = true := by kernel_rfl
theorem shapes : shAll Try.prog [22, 3] = some [(false, [.sl [.int .i64, .int .i64, .int .i64, .int .i64, .int .i64, .int .i64]]), (false, [.int .i64])] := by kernel_rfl
theorem law (args : List V) (h : ArgOk [(false, [.sl [.int .i64, .int .i64, .int .i64, .int .i64, .int .i64, .int .i64]]), (false, [.int .i64])] args) : PFD Try.prog 3 args (vbl true) := by
  match args, h with
  | [v0, v1], ⟨h0, h1, _⟩ =>
    obtain ⟨l0, r0, q0⟩ := arg_fds h0
    obtain ⟨l1, rfl, q1⟩ := arg_int h1
    exact PFD.ri (C3 q0) (.cons r0 (.cons (RI.refl _) .nil))
set_option maxRecDepth 100000 in
theorem lifted (os : Os) (started : os.Started) (H : Type) (enc : TypeId × Value → H) :
    ReturnsInHanded {} Try.checked os 3 .any (Rows.topSurveyChangedSpec.pre6 enc Try.prog Try.f3 Rows.topSurveyChangedRow.domain false) (Rows.topSurveyChangedSpec.post enc Try.prog Try.f3 false true false false) := by
  refine returnsInHanded_of_change (C := Try.checked) Try.own started (by kernel_rfl) Try.func3
    (ChangeSpec.witness6 (enc := enc) (C := Try.checked) false ⟨#[], #[.slice none 0 0, .int .i64 0], []⟩ 8 (by kernel_rfl) (by kernel_rfl) (by kernel_rfl) (by kernel_rfl)) ?_
  intro W base args ds gs before hval0 hW hcnd _
  exact law_calls (P := Try.prog) (F := Try.f3) (tb := 4) Try.laidOut (by rw [Try.params3]; exact shapes) rfl (fun ds hl => by
    rw [Try.params3] at hl
    match ds, hl with
    | [d0, d1], _ => rfl) (by kernel_rfl) Try.underlying4 law W base args ds gs before trivial hval0 hW
theorem row_holds : Rows.TopSurveyChangedSaid :=
  OpenClaim.holds_of_wide 3 Try.f3 rfl rfl rfl rfl rfl rfl rfl ⟨rfl, rfl, rfl, rfl, rfl⟩ rfl rfl rfl rfl rfl (by kernel_rfl) Try.func3 (by kernel_rfl)
    (of_decide_eq_true (by kernel_rfl)) (by unfold Func.isWrapper; rw [if_neg (by decide +kernel)]; exact ⟨rfl, rfl⟩)
    (fun os started H enc _ => lifted os started H enc)
end Go.Proofs.Ytailfkllanegeaa
