/- Proved here at the end: the row named in the last theorem, on no condition. -/
import Derived.Test.YtnimcgmgnmlfgaaDiveWatchesD
import Derived.Test.YtnimcgmgnmlfgaaRows
set_option linter.unusedSimpArgs false
set_option linter.unusedVariables false
set_option maxHeartbeats 4000000
namespace Go.Pw
set_option maxRecDepth 2000
open Go Go.Proofs A1 A2 A3 A4
theorem cw_a {x : Rt} {l : List Wt} {i : Nat} {e : Int} (h : cwA x l i = e) (he : ¬ e = 0) : cwN x l i = e := by rw [cwN, h, if_neg he]
theorem cw_6 {x : Rt} {l : List Wt} {i : Nat} (h : ¬ (0 ≤ (wtA l i).1 ∧ (wtA l i).1 ≤ x.p - 1)) : cwN x l i = 6 := cw_a (by rw [cwA, unl, decide_eq_false h]; rfl) (by decide)
theorem cw_13 {x : Rt} {l : List Wt} {i : Nat} (h : 0 ≤ (wtA l i).1 ∧ (wtA l i).1 ≤ x.p - 1) (h1 : ¬ (wtA l i).2.1 = nxW x l i) : cwN x l i = 13 := cw_a (by rw [cwA, unl, decide_eq_true h, unl, decide_eq_false h1]; rfl) (by decide)
theorem cw_2 {x : Rt} {l : List Wt} {i : Nat} (h : 0 ≤ (wtA l i).1 ∧ (wtA l i).1 ≤ x.p - 1) (h1 : (wtA l i).2.1 = nxW x l i) (h2 : ¬ ((wtA l i).2.1 ≤ (wtA l i).2.2 ∧ (wtA l i).2.2 ≤ x.hi)) : cwN x l i = 2 := cw_a (by rw [cwA, unl, decide_eq_true h, unl, decide_eq_true h1, unl, decide_eq_false h2]; rfl) (by decide)
theorem cw_b {x : Rt} {l : List Wt} {i : Nat} (h : 0 ≤ (wtA l i).1 ∧ (wtA l i).1 ≤ x.p - 1) (h1 : (wtA l i).2.1 = nxW x l i) (h2 : (wtA l i).2.1 ≤ (wtA l i).2.2 ∧ (wtA l i).2.2 ≤ x.hi) : cwN x l i = cwB x l i := by
  have e : cwA x l i = 0 := by rw [cwA, unl, decide_eq_true h, unl, decide_eq_true h1, unl, decide_eq_true h2]; rfl
  rw [cwN, if_pos e]
/-- A watch, and an earlier one of the same pilot without the rest between. -/
abbrev cflP (x : Rt) (l : List Wt) (w : Wt) (m : Nat) : Prop := (wtA l m).1 = w.1 ∧ w.2.1 - (wtA l m).2.2 - 1 < x.r
theorem rsN_iff {x : Rt} {l : List Wt} {w : Wt} : ∀ {n : Nat}, (∀ i j, i < j → j < n → (wtA l i).2.2 ≤ (wtA l j).2.2) → (((rsN l w n).2 = true ∧ (rsN l w n).1 < x.r) ↔ ∃ m, m < n ∧ cflP x l w m)
  | 0, _ => by
    rw [rsN]
    exact ⟨fun h => (by cases h.1), fun ⟨m, hm, _⟩ => by omega⟩
  | n + 1, hm => by
    have ih := rsN_iff (x := x) (l := l) (w := w) (n := n) fun i j h1 h2 => hm i j h1 (by omega)
    rw [rsN]
    split
    · rename_i h
      constructor
      · rintro ⟨_, h2⟩
        exact ⟨n, Nat.lt_succ_self _, h, h2⟩
      · rintro ⟨m, h1, h2, h3⟩
        refine ⟨rfl, ?_⟩
        rcases Nat.lt_succ_iff_lt_or_eq.1 h1 with h4 | rfl
        · have := hm m n h4 (Nat.lt_succ_self _)
          show w.2.1 - (wtA l n).2.2 - 1 < x.r
          omega
        · exact h3
    · rename_i h
      rw [ih]
      constructor
      · rintro ⟨m, h1, h2⟩; exact ⟨m, by omega, h2⟩
      · rintro ⟨m, h1, h2⟩
        rcases Nat.lt_succ_iff_lt_or_eq.1 h1 with h4 | rfl
        · exact ⟨m, h4, h2⟩
        · exact absurd h2.1 h
theorem cw_mono {x : Rt} {l : List Wt} {n : Nat} (h : ∀ j, j < n → cwN x l j = 0) : ∀ i j, i < j → j < n → (wtA l i).2.2 ≤ (wtA l j).2.2 := fun i j => by
  induction j with
  | zero => intro h1; omega
  | succ j ih =>
    intro h1 h2
    have h3 := cwN_0 (h (j + 1) h2)
    rw [nxW, if_neg (by omega), Nat.add_sub_cancel] at h3
    rcases Nat.lt_succ_iff_lt_or_eq.1 h1 with h4 | rfl
    · have := ih h4 (by omega)
      omega
    · omega
theorem cw_22 {x : Rt} {l : List Wt} {i : Nat} (h : cwN x l i = cwB x l i) (h1 : ¬ (wtA l i).2.2 + 1 - (wtA l i).2.1 ≤ x.w) : cwN x l i = 22 := by
  rw [h, cwB, unl, decide_eq_false h1]; rfl
theorem cw_24 {x : Rt} {l : List Wt} {i m : Nat} (h : cwN x l i = cwB x l i) (h1 : (wtA l i).2.2 + 1 - (wtA l i).2.1 ≤ x.w) (hb : ∀ j, j < i → cwN x l j = 0) (hm : m < i) (hc : cflP x l (wtA l i) m) : cwN x l i = 24 := by
  have h2 := (rsN_iff (x := x) (w := wtA l i) (cw_mono hb)).2 ⟨m, hm, hc⟩
  rw [h, cwB, unl, decide_eq_true h1, h2.1, decide_eq_false (by omega)]; rfl
theorem cw_0 {x : Rt} {l : List Wt} {i : Nat} (h : cwN x l i = cwB x l i) (h1 : (wtA l i).2.2 + 1 - (wtA l i).2.1 ≤ x.w) (hb : ∀ j, j < i → cwN x l j = 0) (hc : ∀ m, m < i → ¬ cflP x l (wtA l i) m) : cwN x l i = 0 := by
  have h2 := rsN_iff (x := x) (w := wtA l i) (cw_mono hb)
  rw [h, cwB, fst2, unl0 (by decide), unb_ok (by decide)]
  refine ⟨h1, ?_⟩
  rcases hr : (rsN l (wtA l i) i).2 with _ | _
  · rfl
  · rw [Bool.not_true, Bool.false_or, decide_eq_true_eq]
    rcases Int.lt_or_le (rsN l (wtA l i) i).1 x.r with h3 | h3
    · obtain ⟨m, h4, h5⟩ := h2.1 ⟨hr, h3⟩
      exact absurd h5 (hc m h4)
    · exact h3
theorem C38 {x : Rt} {l : List Wt} : (rtE x = 0 ∧ l.length ≤ 1000000) → PFD Try.prog 38 [rtv x, .c (trs l)] (.tup [vi .i64 (cwE x l).1, vi .i64 (cwE x l).2]) := fun ⟨h0, hl⟩ => by
  obtain ⟨q, hq⟩ : ∃ q, q = cwE x l := ⟨_, rfl⟩
  rw [← hq]
  rw [cwE, if_pos h0] at hq
  obtain ⟨hx, hxo⟩ := rtE_ok h0
  refine pi2 fn38 ?_
  (repeat' first | (refine Owe.same ?_; first | refine Owe.o ?_ | refine Owe.mk ?_ ?_) | (refine Fork.same ?_; (first | refine fkD ?_ ?_ | refine fkN ?_ ?_ | refine fkM ?_ ?_) <;> intro h) | refine MvQ.stay ?_)
  · rw [if_pos h] at hq; subst hq; (refine rqK rfl ?_; (repeat' first | exact rfl | (refine qS ?_; constructor)))
  · rw [if_neg h] at hq
    clear h
    have hret : ∀ {k}, k < l.length → (∀ i, i < k → cwN x l i = 0) → ∀ {e}, cwN x l k = e → ¬ e = 0 → q = ((k : Int), e) := fun hk h1 e he h2 => by
      have e := eachN_e hk h1 (by rw [he]; exact h2)
      rw [if_neg (by rw [e, he]; exact h2), e, he] at hq; exact hq
    refine Sat.lp0 (fun k : Nat => [(7, vi .i64 k), (6, vi .i64 (nxW x l k)), (1, .c (trs l)), (2, .c (.rp (rtD x)))]) (fun k => k ≤ l.length ∧ ∀ i, i < k → cwN x l i = 0) (fun k => l.length - k) 0 ⟨Nat.zero_le _, fun i hi => by omega⟩ (by ((first | refine qen ?_ | refine qvs ?_ | refine qeq ?_ | refine qst ?_ | refine qv ?_ | refine qc ?_ | refine qe ?_ | refine qcs ?_ | skip); (repeat' first | exact rfl | (refine qS ?_; constructor)))) ?_
    intro k hk
    refine Fork.dec (fun hlt => ?_) (fun hlt => ?_)
    · have hlt : k < l.length := by omega
      have hnb := nxW_bd hx hk.2
      have hwb := wtB_of hx hk.2
      have hnx1 : nxW x l (k + 1) = (wtA l k).2.2 + 1 := by rw [nxW, if_neg (by omega), Nat.add_sub_cancel]
      have hret := fun {e} => @hret k hlt hk.2 e
      have k6 := fun h => hret (cw_6 (x := x) (l := l) (i := k) h) (by decide)
      have k13 := fun h h1 => hret (cw_13 (x := x) (l := l) (i := k) h h1) (by decide)
      have k2 := fun h h1 h2 => hret (cw_2 (x := x) (l := l) (i := k) h h1 h2) (by decide)
      have kb := cw_b (x := x) (l := l) (i := k)
      have k22 := fun h h1 => hret (cw_22 (x := x) (l := l) (i := k) h h1) (by decide)
      have k24 := fun {m} h h1 hm hc => hret (cw_24 (x := x) (l := l) (i := k) (m := m) h h1 hk.2 hm hc) (by decide)
      have k0 := fun h h1 hc => cw_0 (x := x) (l := l) (i := k) h h1 hk.2 hc
      generalize nxW x l k = N at *
      have hxp := hx.2.2.1
      have hxh := hx.2.1
      by_cases g1 : 0 ≤ (l.getD k (0, 0, 0)).1 ∧ (l.getD k (0, 0, 0)).1 ≤ x.p - 1
      rotate_left
      · have hx := k6 g1
        (repeat' first | (refine Owe.same ?_; first | refine Owe.o ?_ | refine Owe.mk ?_ ?_) | (refine Fork.same ?_; (first | refine fkD ?_ ?_ | refine fkN ?_ ?_ | refine fkM ?_ ?_) <;> intro h) | ((first | refine OpsL.same ?_ | refine OpsDL.same ?_); first | refine pK C19 rfl rfl ?_) | refine MvQ.stay ?_)
        all_goals first | contradiction | exact absurd h g1 | (subst hx; (refine rqK rfl ?_; (repeat' first | exact rfl | (refine qS ?_; constructor))))
      by_cases g2 : (l.getD k (0, 0, 0)).2.1 = N
      rotate_left
      · have hx := k13 g1 g2
        (repeat' first | (refine Owe.same ?_; first | refine Owe.o ?_ | refine Owe.mk ?_ ?_) | (refine Fork.same ?_; (first | refine fkD ?_ ?_ | refine fkN ?_ ?_ | refine fkM ?_ ?_) <;> intro h) | ((first | refine OpsL.same ?_ | refine OpsDL.same ?_); first | refine pK C19 rfl rfl ?_) | refine MvQ.stay ?_)
        all_goals first | contradiction | exact absurd h g2 | exact absurd g1 h | (subst hx; (refine rqK rfl ?_; (repeat' first | exact rfl | (refine qS ?_; constructor))))
      by_cases g3 : (l.getD k (0, 0, 0)).2.1 ≤ (l.getD k (0, 0, 0)).2.2 ∧ (l.getD k (0, 0, 0)).2.2 ≤ x.hi
      rotate_left
      · have hx := k2 g1 g2 g3
        (repeat' first | (refine Owe.same ?_; first | refine Owe.o ?_ | refine Owe.mk ?_ ?_) | (refine Fork.same ?_; (first | refine fkD ?_ ?_ | refine fkN ?_ ?_ | refine fkM ?_ ?_) <;> intro h) | ((first | refine OpsL.same ?_ | refine OpsDL.same ?_); first | refine pK C19 rfl rfl ?_) | refine MvQ.stay ?_)
        all_goals first
          | contradiction
          | exact absurd g1 h
          | exact absurd g2 h
          | (subst hx; (refine rqK rfl ?_; (repeat' first | exact rfl | (refine qS ?_; constructor))); done)
          | (exfalso; simp only [Int.toNat_natCast] at *; omega)
      obtain ⟨g3, g4⟩ := g3
      have kb := kb g1 g2 ⟨g3, g4⟩
      have k22 := k22 kb
      have k24 := fun {m} => @k24 m kb
      have k0 := k0 kb
      (repeat' first | (refine Owe.same ?_; first | refine Owe.o ?_ | refine Owe.mk ?_ ?_) | (refine Fork.same ?_; (first | refine fkD ?_ ?_ | refine fkN ?_ ?_ | refine fkM ?_ ?_) <;> intro h) | ((first | refine OpsL.same ?_ | refine OpsDL.same ?_); first | refine pK C19 rfl rfl ?_) | refine MvQ.stay ?_)
      all_goals first
        | contradiction
        | exact absurd g1 h
        | exact absurd g2 h
        | exact absurd g3 (Int.not_le.2 h)
        | exact absurd g4 (Int.not_le.2 h)
        | skip
      · have h : x.w < (l.getD k (0, 0, 0)).2.2 - (l.getD k (0, 0, 0)).2.1 + 1 := h
        have hx := k22 (by show ¬ (l.getD k (0, 0, 0)).2.2 + 1 - (l.getD k (0, 0, 0)).2.1 ≤ x.w; omega)
        subst hx; (refine rqK rfl ?_; (repeat' first | exact rfl | (refine qS ?_; constructor)))
      · have h : ¬ x.w < (l.getD k (0, 0, 0)).2.2 - (l.getD k (0, 0, 0)).2.1 + 1 := h
        have g5 : (l.getD k (0, 0, 0)).2.2 + 1 - (l.getD k (0, 0, 0)).2.1 ≤ x.w := by omega
        have k24 := fun {m} => @k24 m g5
        have k0 := k0 g5
        clear k6 k13 k2 k22 h
        (repeat' first | (refine Owe.same ?_; first | refine Owe.o ?_ | refine Owe.mk ?_ ?_) | (refine Fork.same ?_; (first | refine fkD ?_ ?_ | refine fkN ?_ ?_ | refine fkM ?_ ?_) <;> intro h) | refine MvQ.stay ?_)
        refine Sat.lp (fun j : Nat => ⟨[(9, vi .i64 j), (8, .c (.bp 0 0)), (7, vi .i64 k), (6, vi .i64 N), (1, .c (trs l)), (2, .c (.rp (rtD x)))], [(0, .box [int (l.getD k (0, 0, 0)).2.1, int (l.getD k (0, 0, 0)).2.2])], 1⟩) (fun j => j ≤ k ∧ ∀ m, m < j → ¬ cflP x l (wtA l k) m) (fun j => k - j) 0 [0] ⟨Nat.zero_le _, fun i hi => by omega⟩ ?_ ?_
        · (refine qis ?_ ?_ <;> (repeat' first | exact rfl | (refine qS ?_; constructor)))
        · intro j hj
          refine Fork.dec (fun hlj => ?_) (fun hlj => ?_)
          · have hlj : j < k := by omega
            have hbj := (hwb j hlj).2
            have hbj : -1000000 ≤ (l.getD j (0, 0, 0)).2.2 ∧ (l.getD j (0, 0, 0)).2.2 ≤ 1000000 := hbj
            (repeat' first | (refine Owe.same ?_; first | refine Owe.o ?_ | refine Owe.mk ?_ ?_) | (refine Fork.same ?_; (first | refine fkD ?_ ?_ | refine fkN ?_ ?_ | refine fkM ?_ ?_) <;> intro h) | refine MvQ.stay ?_)
            · rename_i r1
              have hx := k24 hlj ⟨r1, h⟩
              subst hx; (refine rqK rfl ?_; (repeat' first | exact rfl | (refine qS ?_; constructor)))
            · rename_i r1
              refine again (j + 1) [0] ⟨hlj, succ_all hj.2 (fun hh => h hh.2)⟩ (by omega) ?_
              (refine qis ?_ ?_ <;> (repeat' first | exact rfl | (refine qS ?_; constructor)))
            · refine again (j + 1) [0] ⟨hlj, succ_all hj.2 (fun hh => h hh.1)⟩ (by omega) ?_
              (refine qis ?_ ?_ <;> (repeat' first | exact rfl | (refine qS ?_; constructor)))
          · have : j = k := by omega
            subst this
            have h0 := k0 hj.2
            (repeat' first | (refine Owe.same ?_; first | refine Owe.o ?_ | refine Owe.mk ?_ ?_) | (refine Fork.same ?_; (first | refine fkD ?_ ?_ | refine fkN ?_ ?_ | refine fkM ?_ ?_) <;> intro h) | refine MvQ.stay ?_)
            refine again0 (j + 1) ⟨hlt, succ_all hk.2 h0⟩ (by omega) ?_
            rw [hnx1]
            ((first | refine qen ?_ | refine qvs ?_ | refine qeq ?_ | refine qst ?_ | refine qv ?_ | refine qc ?_ | refine qe ?_ | refine qcs ?_ | skip); (repeat' first | exact rfl | (refine qS ?_; constructor)))
    · have : k = l.length := by omega
      subst this
      rw [if_pos (eachN_ok.2 hk.2)] at hq
      have hnb := nxW_bd hx hk.2
      have h00 : l.length = 0 → nxW x l l.length = x.lo := fun h => by rw [nxW, if_pos h]
      generalize nxW x l l.length = N at *
      have hxh := hx.2.1
      (repeat' first | (refine Owe.same ?_; first | refine Owe.o ?_ | refine Owe.mk ?_ ?_) | (refine Fork.same ?_; (first | refine fkD ?_ ?_ | refine fkN ?_ ?_ | refine fkM ?_ ?_) <;> intro h) | refine MvQ.stay ?_)
      · rename_i r1
        have e : unl (0 < (l.length : Int) ∧ N = x.hi + 1) 21 = 21 := by rw [unl, decide_eq_false (fun hh => h hh.2)]; rfl
        rw [e] at hq
        subst hq; (refine rqK rfl ?_; (repeat' first | exact rfl | (refine qS ?_; constructor)))
      · have h : N = x.hi + 1 := by simpa using h
        have e : unl (0 < (l.length : Int) ∧ N = x.hi + 1) 21 = 0 := by
          rw [unl, decide_eq_true]; rfl
          refine ⟨?_, h⟩
          rcases Nat.eq_zero_or_pos l.length with h1 | h1
          · have := h00 h1; omega
          · omega
        rw [e] at hq
        subst hq; (refine rqK rfl ?_; (repeat' first | exact rfl | (refine qS ?_; constructor)))
end Go.Pw

set_option linter.unusedSimpArgs false
set_option linter.unusedVariables false
set_option maxHeartbeats 4000000
namespace Go.Pw
set_option maxRecDepth 2000
open Go Go.Proofs A1 A2 A3 A4
abbrev wtF (x : Rt) (i : Nat) : Wt := ((i : Int).tmod x.p, x.lo + i * x.w, min x.hi (x.lo + i * x.w + x.w - 1))
abbrev wL (x : Rt) (n : Nat) : List Wt := accL (wtF x) n
theorem wL_get {x : Rt} {n i : Nat} (h : i < n) : wtA (wL x n) i = wtF x i := by
  rw [wtA, List.getD_eq_getElem?_getD]
  simp [accL, h]
/-- How many watches there are. -/
def nW (x : Rt) : Nat := ((x.hi - x.lo) / x.w + 1).toNat
theorem nW_iff {x : Rt} (hx : rtP x) (ho : x.lo ≤ x.hi) (k : Nat) : x.lo + k * x.w ≤ x.hi ↔ k < nW x := by
  have hw := hx.2.2.2.1
  have h1 : (k : Int) * x.w ≤ x.hi - x.lo ↔ (k : Int) ≤ (x.hi - x.lo) / x.w := (Int.le_ediv_iff_mul_le (by omega)).symm
  have h2 : 0 ≤ (x.hi - x.lo) / x.w := Int.ediv_nonneg (by omega) (by omega)
  rw [nW]
  omega
theorem nW_40 {x : Rt} (hx : rtP x) (ho : x.lo ≤ x.hi) (h : x.hi - x.lo < 40 * x.w) : nW x ≤ 40 := by
  have h1 := nW_iff hx ho 40
  omega
theorem C34 {l : List Wt} : l.length ≤ 1000000 → PFD Try.prog 34 [.c (trs l)] (.c (trs l)) := fun h => by
  refine pi1 fn34 ?_
  (repeat' first | (refine Owe.same ?_; first | refine Owe.o ?_ | refine Owe.mk ?_ ?_) | (refine Fork.same ?_; (first | refine fkD ?_ ?_ | refine fkN ?_ ?_ | refine fkM ?_ ?_) <;> intro h) | refine MvQ.stay ?_)
  (refine rqK rfl ?_; (repeat' first | exact rfl | (refine qS ?_; constructor)))
theorem C37 {l m : List Wt} : l.length ≤ 1000000 → PFD Try.prog 37 [.c (trs l), .c (trs m)] (vbl (decide (l = m))) := fun hl => by
  refine pi1 fn37 ?_
  (repeat' first | (refine Owe.same ?_; first | refine Owe.o ?_ | refine Owe.mk ?_ ?_) | (refine Fork.same ?_; (first | refine fkD ?_ ?_ | refine fkN ?_ ?_ | refine fkM ?_ ?_) <;> intro h) | refine MvQ.stay ?_)
  · (refine rqK rfl ?_; (repeat' first | exact rfl | (refine qS ?_; constructor))); simp only [decide_eq_false_iff_not]; intro he; subst he; omega
  · have hlm : l.length = m.length := by omega
    clear h
    refine Sat.lp0 (fun k : Nat => [(5, vi .i64 k), (0, .c (trs l)), (1, .c (trs m))]) (fun k => k ≤ l.length ∧ ∀ i, i < k → l.getD i (0, 0, 0) = m.getD i (0, 0, 0)) (fun k => l.length - k) 0 ⟨Nat.zero_le _, fun i hi => by omega⟩ (by ((first | refine qen ?_ | refine qvs ?_ | refine qeq ?_ | refine qst ?_ | refine qv ?_ | refine qc ?_ | refine qe ?_ | refine qcs ?_ | skip); (repeat' first | exact rfl | (refine qS ?_; constructor)))) ?_
    intro k hk
    refine Fork.dec (fun hlt => ?_) (fun hlt => ?_)
    · have hlt : k < l.length := by omega
      (repeat' first | (refine Owe.same ?_; first | refine Owe.o ?_ | refine Owe.mk ?_ ?_) | (refine Fork.same ?_; (first | refine fkD ?_ ?_ | refine fkN ?_ ?_ | refine fkM ?_ ?_) <;> intro h) | refine MvQ.stay ?_)
      · (refine rqK rfl ?_; (repeat' first | exact rfl | (refine qS ?_; constructor))); simp only [decide_eq_false_iff_not]; intro he; subst he
        simp at h
      · have h : (!(decide ((l.getD k (0, 0, 0)).1 = (m.getD k (0, 0, 0)).1) && decide ((l.getD k (0, 0, 0)).2.1 = (m.getD k (0, 0, 0)).2.1) && decide ((l.getD k (0, 0, 0)).2.2 = (m.getD k (0, 0, 0)).2.2))) = false := h
        have h : ((l.getD k (0, 0, 0)).1 = (m.getD k (0, 0, 0)).1 ∧ (l.getD k (0, 0, 0)).2.1 = (m.getD k (0, 0, 0)).2.1) ∧ (l.getD k (0, 0, 0)).2.2 = (m.getD k (0, 0, 0)).2.2 := by simpa using h
        exact again0 (k + 1) ⟨hlt, succ_all hk.2 (Prod.ext h.1.1 (Prod.ext h.1.2 h.2))⟩ (by omega) (by ((first | refine qen ?_ | refine qvs ?_ | refine qeq ?_ | refine qst ?_ | refine qv ?_ | refine qc ?_ | refine qe ?_ | refine qcs ?_ | skip); (repeat' first | exact rfl | (refine qS ?_; constructor))))
    · have : k = l.length := by omega
      subst this
      (repeat' first | (refine Owe.same ?_; first | refine Owe.o ?_ | refine Owe.mk ?_ ?_) | (refine Fork.same ?_; (first | refine fkD ?_ ?_ | refine fkN ?_ ?_ | refine fkM ?_ ?_) <;> intro h) | refine MvQ.stay ?_)
      (refine rqK rfl ?_; (repeat' first | exact rfl | (refine qS ?_; constructor))); simp only [decide_eq_true_eq]; exact ext_getD (0, 0, 0) hlm fun i hi => hk.2 i (by omega)
theorem C36 {x : Rt} : (rtE x = 0 ∧ x.hi - x.lo < 40 * x.w) → PFD Try.prog 36 [rtv x] (.tup [.c (trs (if (cwE x (wL x (nW x))).2 = 0 then wL x (nW x) else [])), vi .i64 (cwE x (wL x (nW x))).2]) := fun ⟨h0, h40⟩ => by
  obtain ⟨hx, hxo⟩ := rtE_ok h0
  have hn := nW_40 hx hxo h40
  have c1 := C38 (x := x) (l := wL x (nW x)) ⟨h0, by rw [accL_len]; omega⟩
  generalize cwE x (wL x (nW x)) = q at *
  have hl := hx.1
  have hh := hx.2.1
  have hp := hx.2.2.1
  have hw := hx.2.2.2.1
  refine pi2 fn36 ?_
  (repeat' first | (refine Owe.same ?_; first | refine Owe.o ?_ | refine Owe.mk ?_ ?_) | (refine Fork.same ?_; (first | refine fkD ?_ ?_ | refine fkN ?_ ?_ | refine fkM ?_ ?_) <;> intro h) | refine MvQ.stay ?_)
  refine Sat.nilS 4 129 3 (fun i => r3 (([] : List Wt).getD i (0, 0, 0))) rfl ?_
  refine Sat.lp (fun k : Nat => ⟨[(5, vi .i64 (x.lo + k * x.w)), (4, .c (.ms 0 (wL x k).length)), (1, .c (.rp (rtD x)))], [(0, rowv 129 3 r3 (0, 0, 0) (wL x k))], 1⟩) (fun k => k ≤ nW x) (fun k => nW x - k) 0 [0] (Nat.zero_le _) ?_ ?_
  · (refine qis ?_ ?_ <;> (repeat' first | exact rfl | (refine qS ?_; constructor)))
    simp
  · intro k hk
    have hi := nW_iff hx hxo k
    have hkl : (wL x k).length = k := accL_len (wtF x) k
    refine Fork.dec (fun hlt => ?_) (fun hlt => ?_)
    · have hlt : k < nW x := hi.1 hlt
      have hs := accL_succ (wtF x) k
      have hmul : 0 ≤ (k : Int) * x.w := Int.mul_nonneg (by omega) (by omega)
      have hle := hi.2 hlt
      (repeat' first | (refine Owe.same ?_; first | refine Owe.o ?_ | refine Owe.mk ?_ ?_) | (refine Fork.same ?_; (first | refine fkD ?_ ?_ | refine fkN ?_ ?_ | refine fkM ?_ ?_) <;> intro h) | refine MvQ.stay ?_)
      · omega
      · have hlin : x.lo + ((k + 1 : Nat) : Int) * x.w = x.lo + k * x.w + x.w := by
          rw [Int.natCast_succ, Int.add_mul]; omega
        refine again (k + 1) [20] hlt (by omega) ?_
        rw [show wL x (k + 1) = wL x k ++ [wtF x k] from hs, hlin]
        (refine qis ?_ ?_ <;> (repeat' first | exact rfl | (refine qS ?_; constructor)))
        · simp
        · rw [hkl]
    · have : k = nW x := by omega
      subst this
      (repeat' first | (refine Owe.same ?_; first | refine Owe.o ?_ | refine Owe.mk ?_ ?_) | (refine Fork.same ?_; (first | refine fkD ?_ ?_ | refine fkN ?_ ?_ | refine fkM ?_ ?_) <;> intro h) | refine MvQ.stay ?_)
      refine OpsL.frz 45 _ rfl rfl (Nat.le_refl _) ?_
      (repeat' first | (refine Owe.same ?_; first | refine Owe.o ?_ | refine Owe.mk ?_ ?_) | (refine Fork.same ?_; (first | refine fkD ?_ ?_ | refine fkN ?_ ?_ | refine fkM ?_ ?_) <;> intro h) | ((first | refine OpsL.same ?_ | refine OpsDL.same ?_); first | refine pK c1 rfl rfl ?_) | refine MvQ.stay ?_)
      · rw [if_neg h]
        (refine rqK rfl ?_; (repeat' first | exact rfl | (refine qS ?_; constructor)))
      · rw [if_pos h, h]
        (repeat' first | (refine Owe.same ?_; first | refine Owe.o ?_ | refine Owe.mk ?_ ?_) | (refine Fork.same ?_; (first | refine fkD ?_ ?_ | refine fkN ?_ ?_ | refine fkM ?_ ?_) <;> intro h) | refine MvQ.stay ?_)
        refine rqF 0 _ rfl rfl rfl ?_; (repeat' first | exact rfl | (refine qS ?_; constructor))
/-- A watch of a rota without the rest before. -/
abbrev cfX (x : Rt) (k : Nat) : Prop := (rsN (wL x k) (wtF x k) k).2 = true ∧ (rsN (wL x k) (wtF x k) k).1 < x.r
abbrev noX (x : Rt) : Prop := ∀ k, k < nW x → ¬ cfX x k
def wfE (x : Rt) : List Wt × Int := if rtE x = 0 then (if x.hi - x.lo + 1 > 40 * x.w then ([], 8) else if noX x then (wL x (nW x), 0) else ([], 24)) else ([], rtE x)
theorem C32 {x : Rt} : PFD Try.prog 32 [rtv x] (.tup [.c (trs (wfE x).1), vi .i64 (wfE x).2]) := by
  obtain ⟨q, hq⟩ : ∃ q, q = wfE x := ⟨_, rfl⟩
  rw [← hq]
  rw [wfE] at hq
  have c1 := C84 (x := x)
  by_cases h0 : rtE x = 0
  rotate_left
  · rw [if_neg h0] at hq
    generalize rtE x = e at *
    subst hq
    refine pi2 fn32 ?_
    (repeat' first | (refine Owe.same ?_; first | refine Owe.o ?_ | refine Owe.mk ?_ ?_) | (refine Fork.same ?_; (first | refine fkY ?_ | refine fkF ?_ | ((first | refine fkD ?_ ?_ | refine fkN ?_ ?_ | refine fkM ?_ ?_) <;> intro h))) | ((first | refine OpsL.same ?_ | refine OpsDL.same ?_); first | refine oK c1 rfl rfl rfl ?_) | refine MvQ.stay ?_)
    (refine rqK rfl ?_; (repeat' first | exact rfl | (refine qS ?_; constructor)))
  rw [if_pos h0] at hq
  rw [h0] at c1
  obtain ⟨hx, hxo⟩ := rtE_ok h0
  have hl := hx.1
  have hh := hx.2.1
  have hp := hx.2.2.1
  have hw := hx.2.2.2.1
  have hr := hx.2.2.2.2
  by_cases h40 : x.hi - x.lo + 1 > 40 * x.w
  · rw [if_pos h40] at hq
    subst hq
    refine pi2 fn32 ?_
    (repeat' first | (refine Owe.same ?_; first | refine Owe.o ?_ | refine Owe.mk ?_ ?_) | (refine Fork.same ?_; (first | refine fkY ?_ | refine fkF ?_ | ((first | refine fkD ?_ ?_ | refine fkN ?_ ?_ | refine fkM ?_ ?_) <;> intro h))) | ((first | refine OpsL.same ?_ | refine OpsDL.same ?_); first | refine oK c1 rfl rfl rfl ?_) | refine MvQ.stay ?_)
    (refine rqK rfl ?_; (repeat' first | exact rfl | (refine qS ?_; constructor)))
  rw [if_neg h40] at hq
  have hn := nW_40 hx hxo (by omega)
  refine pi2 fn32 ?_
  (repeat' first | (refine Owe.same ?_; first | refine Owe.o ?_ | refine Owe.mk ?_ ?_) | (refine Fork.same ?_; (first | refine fkY ?_ | refine fkF ?_ | ((first | refine fkD ?_ ?_ | refine fkN ?_ ?_ | refine fkM ?_ ?_) <;> intro h))) | ((first | refine OpsL.same ?_ | refine OpsDL.same ?_); first | refine oK c1 rfl rfl rfl ?_) | refine MvQ.stay ?_)
  (repeat' first | (refine Owe.same ?_; first | refine Owe.o ?_ | refine Owe.mk ?_ ?_) | (refine Fork.same ?_; (first | refine fkD ?_ ?_ | refine fkN ?_ ?_ | refine fkM ?_ ?_) <;> intro h) | refine MvQ.stay ?_)
  refine Sat.nilS 5 129 3 (fun i => r3 (([] : List Wt).getD i (0, 0, 0))) rfl ?_
  refine Sat.lp (fun k : Nat => ⟨[(6, vi .i64 (x.lo + k * x.w)), (5, .c (.ms 0 (wL x k).length)), (1, .c (.rp (rtD x)))], [(0, rowv 129 3 r3 (0, 0, 0) (wL x k))], 1⟩) (fun k => k ≤ nW x ∧ ∀ j, j < k → ¬ cfX x j) (fun k => nW x - k) 0 [0] ⟨Nat.zero_le _, fun i hi => by omega⟩ ?_ ?_
  · (refine qis ?_ ?_ <;> (repeat' first | exact rfl | (refine qS ?_; constructor)))
    simp
  · intro k ⟨hk, hno⟩
    have hi := nW_iff hx hxo k
    have hkl : (wL x k).length = k := accL_len (wtF x) k
    refine Fork.dec (fun hlt => ?_) (fun hlt => ?_)
    · have hlt : k < nW x := hi.1 hlt
      have hs := accL_succ (wtF x) k
      have hmul : 0 ≤ (k : Int) * x.w := Int.mul_nonneg (by omega) (by omega)
      have hle := hi.2 hlt
      (repeat' first | (refine Owe.same ?_; first | refine Owe.o ?_ | refine Owe.mk ?_ ?_) | (refine Fork.same ?_; (first | refine fkD ?_ ?_ | refine fkN ?_ ?_ | refine fkM ?_ ?_) <;> intro h) | refine MvQ.stay ?_)
      refine Ops.cs rfl rfl (CallS.of fn85 rfl ?_)
      (repeat' first | (refine Owe.same ?_; first | refine Owe.o ?_ | refine Owe.mk ?_ ?_) | (refine Fork.same ?_; (first | refine fkD ?_ ?_ | refine fkN ?_ ?_ | refine fkM ?_ ?_) <;> intro h) | refine MvQ.stay ?_)
      refine Ops.cs rfl rfl (CallS.of fn110m rfl ?_)
      (repeat' first | (refine Owe.same ?_; first | refine Owe.o ?_ | refine Owe.mk ?_ ?_) | (refine Fork.same ?_; (first | refine fkD ?_ ?_ | refine fkN ?_ ?_ | refine fkM ?_ ?_) <;> intro h) | refine MvQ.stay ?_)
      refine Sat.keep [3, 4, 5, 9] ?_
      refine Sat.rf rfl rfl (CallS.of fn118 rfl ?_)
      (repeat' first | (refine Owe.same ?_; first | refine Owe.o ?_ | refine Owe.mk ?_ ?_) | (refine Fork.same ?_; (first | refine fkD ?_ ?_ | refine fkN ?_ ?_ | refine fkM ?_ ?_) <;> intro h) | refine MvQ.stay ?_)
      have hlin : x.lo + ((k + 1 : Nat) : Int) * x.w = x.lo + k * x.w + x.w := by
        rw [Int.natCast_succ, Int.add_mul]; omega
      obtain ⟨R, hR⟩ : ∃ R, R = rsN (wL x k) (wtF x k) k := ⟨_, rfl⟩
      have hbr : ∀ m, m < k → -1000000 ≤ ((wL x k).getD m (0, 0, 0)).2.2 ∧ ((wL x k).getD m (0, 0, 0)).2.2 ≤ 1000000 := fun m hm => by
        have e := wL_get (x := x) hm
        rw [wtA] at e
        rw [e]
        have hmul : 0 ≤ (m : Int) * x.w := Int.mul_nonneg (by omega) (by omega)
        show -1000000 ≤ min x.hi (x.lo + m * x.w + x.w - 1) ∧ min x.hi (x.lo + m * x.w + x.w - 1) ≤ 1000000
        omega
      have hend : R.2 = false → noX x → wfE x = (wL x (nW x), 0) := fun _ h => by rw [wfE, if_pos h0, if_neg h40, if_pos h]
      have htm : (((wL x k).length : Nat) : Int).tmod x.p = (k : Int).tmod x.p := by rw [hkl]
      refine Sat.lp (fun n : Nat => ⟨[(3, vi .i64 ((n : Int) - 1)), (0, .c (.yd 23)), (1, .c (.bp 22 0))], [(23, .lp [(3, .c (.rp [dI ((((wL x k).length : Nat) : Int).tmod x.p), dI (x.lo + k * x.w), dI (min x.hi (x.lo + k * x.w + x.w - 1))])), (4, .c (.bp 20 0)), (5, .c (.bp 21 0)), (9, .c (.fn 118 [22]))] .ready none (RR Try.prog 25 [10, 11] ra85 rb85)), (22, .box [.ms 0 (wL x k).length]), (21, .box [.d (.v (.bool false))]), (20, .box [int 0]), (18, .box [int ((((wL x k).length : Nat) : Int).tmod x.p), int (x.lo + k * x.w), int (min x.hi (x.lo + k * x.w + x.w - 1))]), (0, rowv 129 3 r3 (0, 0, 0) (wL x k))], 24⟩)
        (fun n => n ≤ k ∧ R = rsN (wL x k) (wtF x k) n) (fun n => n) k [] ⟨Nat.le_refl _, hR⟩ ?_ ?_
      · (refine qis ?_ ?_ <;> (repeat' first | exact rfl | (refine qS ?_; constructor)))
        rw [hkl]
      · intro n ⟨hn1, hqn⟩
        match n, hn1, hqn with
        | 0, _, hqn =>
          rw [rsN] at hqn
          have hcf : ¬ cfX x k := fun hh => by
            have := hh.1
            rw [← hR, hqn] at this
            cases this
          (repeat' first | (refine Owe.same ?_; first | refine Owe.o ?_ | refine Owe.mk ?_ ?_) | (refine Fork.same ?_; (first | refine fkY ?_ | refine fkF ?_ | ((first | refine fkD ?_ ?_ | refine fkN ?_ ?_ | refine fkM ?_ ?_) <;> intro h))) | ((first | refine OpsL.same ?_ | refine OpsDL.same ?_); first | refine oK C50 rfl rfl rfl ?_) | refine MvQ.stay ?_)
          (repeat' first | (refine Owe.same ?_; first | refine Owe.o ?_ | refine Owe.mk ?_ ?_) | (refine Fork.same ?_; (first | refine fkD ?_ ?_ | refine fkN ?_ ?_ | refine fkM ?_ ?_) <;> intro h) | refine MvQ.stay ?_)
          refine again (k + 1) [24] ⟨hlt, succ_all hno hcf⟩ (by omega) ?_
          rw [show wL x (k + 1) = wL x k ++ [wtF x k] from hs, hlin]
          (refine qis ?_ ?_ <;> (repeat' first | exact rfl | (refine qS ?_; constructor)))
          · simp
          · rw [hkl]
        | m + 1, hn1, hqn =>
          have hbm := hbr m hn1
          rw [rsN] at hqn
          have em : (((m + 1 : Nat) : Int) - 1).toNat = m := by omega
          rw [← em] at hbm
          (repeat' first | (refine Owe.same ?_; first | refine Owe.o ?_ | refine Owe.mk ?_ ?_) | (refine Fork.same ?_; (first | refine fkY ?_ | refine fkF ?_ | ((first | refine fkD ?_ ?_ | refine fkN ?_ ?_ | refine fkM ?_ ?_) <;> intro h))) | ((first | refine OpsL.same ?_ | refine OpsDL.same ?_); first | refine oK C50 rfl rfl rfl ?_) | refine MvQ.stay ?_)
          (repeat' first | (refine Owe.same ?_; first | refine Owe.o ?_ | refine Owe.mk ?_ ?_) | (refine Fork.same ?_; (first | refine fkD ?_ ?_ | refine fkN ?_ ?_ | refine fkM ?_ ?_) <;> intro h) | refine MvQ.stay ?_)
          refine Ops.yd rfl rfl rfl rfl rfl ?_
          (repeat' first | (refine Owe.same ?_; first | refine Owe.o ?_ | refine Owe.mk ?_ ?_) | (refine Fork.same ?_; (first | refine fkD ?_ ?_ | refine fkN ?_ ?_ | refine fkM ?_ ?_) <;> intro h) | refine MvQ.stay ?_)
          refine And.intro rfl (Exists.intro _ (And.intro rfl ?_))
          (repeat' first | (refine Owe.same ?_; first | refine Owe.o ?_ | refine Owe.mk ?_ ?_) | (refine Fork.same ?_; (first | refine fkD ?_ ?_ | refine fkN ?_ ?_ | refine fkM ?_ ?_) <;> intro h) | refine MvQ.stay ?_)
          · rw [em] at h
            have h : (wtA (wL x k) m).1 = (wtF x k).1 := h.trans htm
            rw [if_pos h] at hqn
            refine Exists.intro _ (Exists.intro _ (Exists.intro _ (And.intro rfl ?_)))
            (repeat' first | (refine Owe.same ?_; first | refine Owe.o ?_ | refine Owe.mk ?_ ?_) | (refine Fork.same ?_; (first | refine fkD ?_ ?_ | refine fkN ?_ ?_ | refine fkM ?_ ?_) <;> intro h) | refine MvQ.stay ?_)
            · rw [em] at h
              have hcf : cfX x k := ⟨by rw [← hR, hqn], by rw [← hR, hqn]; exact h⟩
              rw [if_neg (fun hh => hh k hlt hcf)] at hq
              subst hq
              (refine rqK rfl ?_; (repeat' first | exact rfl | (refine qS ?_; constructor)))
            · rw [em] at h
              have hcf : ¬ cfX x k := fun hh => by
                have := hh.2
                rw [← hR, hqn] at this
                exact h this
              refine again (k + 1) [25] ⟨hlt, succ_all hno hcf⟩ (by omega) ?_
              rw [show wL x (k + 1) = wL x k ++ [wtF x k] from hs, hlin]
              (refine qis ?_ ?_ <;> (repeat' first | exact rfl | (refine qS ?_; constructor)))
              · simp
              · rw [hkl]
          · rw [em] at h
            have h : ¬ (wtA (wL x k) m).1 = (wtF x k).1 := fun hh => h (hh.trans htm.symm)
            rw [if_neg h] at hqn
            refine Exists.intro _ (Exists.intro _ (Exists.intro _ (And.intro rfl ?_)))
            (repeat' first | (refine Owe.same ?_; first | refine Owe.o ?_ | refine Owe.mk ?_ ?_) | (refine Fork.same ?_; (first | refine fkD ?_ ?_ | refine fkN ?_ ?_ | refine fkM ?_ ?_) <;> intro h) | refine MvQ.stay ?_)
            refine again m [] ⟨by omega, hqn⟩ (by show m < m + 1; omega) ?_
            (refine qis ?_ ?_ <;> (repeat' first | exact rfl | (refine qS ?_; constructor)))
            all_goals (try omega)
    · have : k = nW x := by omega
      subst this
      rw [if_pos hno] at hq
      subst hq
      (repeat' first | (refine Owe.same ?_; first | refine Owe.o ?_ | refine Owe.mk ?_ ?_) | (refine Fork.same ?_; (first | refine fkD ?_ ?_ | refine fkN ?_ ?_ | refine fkM ?_ ?_) <;> intro h) | refine MvQ.stay ?_)
      refine rqF 0 _ rfl rfl rfl ?_; (repeat' first | exact rfl | (refine qS ?_; constructor))
end Go.Pw

set_option linter.unusedSimpArgs false
set_option linter.unusedVariables false
set_option maxHeartbeats 4000000
namespace Go.Pw
set_option maxRecDepth 2000
open Go Go.Proofs A1 A2 A3 A4
theorem rsN_congr {l m : List Wt} {w : Wt} : ∀ {n : Nat}, (∀ i, i < n → wtA l i = wtA m i) → rsN l w n = rsN m w n
  | 0, _ => rfl
  | n + 1, h => by
    have e : l.getD n (0, 0, 0) = m.getD n (0, 0, 0) := h n (Nat.lt_succ_self _)
    rw [rsN, rsN, e, rsN_congr (n := n) fun i hi => h i (by omega)]
theorem wt_succ {x : Rt} (hx : rtP x) (ho : x.lo ≤ x.hi) (k : Nat) : ((k + 1 : Nat) : Int) * x.w = k * x.w + x.w := by rw [Int.natCast_succ, Int.add_mul]; omega
theorem wt_hi {x : Rt} (hx : rtP x) (ho : x.lo ≤ x.hi) {k : Nat} (h : k + 1 < nW x) : (wtF x k).2.2 = x.lo + k * x.w + x.w - 1 := by
  have h1 := (nW_iff hx ho (k + 1)).2 h
  have h2 := wt_succ hx ho k
  show min x.hi (x.lo + k * x.w + x.w - 1) = _
  omega
theorem wt_last {x : Rt} (hx : rtP x) (ho : x.lo ≤ x.hi) {k : Nat} (h : k + 1 = nW x) : (wtF x k).2.2 = x.hi := by
  have h1 := nW_iff hx ho (k + 1)
  have h2 := wt_succ hx ho k
  show min x.hi (x.lo + k * x.w + x.w - 1) = _
  omega
theorem wt_p {x : Rt} (hx : rtP x) (ho : x.lo ≤ x.hi) (k : Nat) : 0 ≤ (wtF x k).1 ∧ (wtF x k).1 ≤ x.p - 1 := by
  have hp := hx.2.2.1
  show 0 ≤ (k : Int).tmod x.p ∧ (k : Int).tmod x.p ≤ x.p - 1
  rw [Int.tmod_eq_emod_of_nonneg (by omega)]
  have h1 := Int.emod_nonneg (k : Int) (show x.p ≠ 0 by omega)
  have h2 := Int.emod_lt_of_pos (k : Int) (show 0 < x.p by omega)
  omega
theorem wt_nx {x : Rt} (hx : rtP x) (ho : x.lo ≤ x.hi) {k : Nat} (h : k < nW x) : nxW x (wL x (nW x)) k = (wtF x k).2.1 := by
  rw [nxW]
  split
  · rename_i h1; subst h1
    show x.lo = x.lo + ((0 : Nat) : Int) * x.w
    simp
  · rename_i h1
    rw [wL_get (by omega), wt_hi hx ho (by omega)]
    have h2 := wt_succ hx ho (k - 1)
    rw [show k - 1 + 1 = k by omega] at h2
    show _ = x.lo + k * x.w
    omega
theorem nW_pos {x : Rt} (hx : rtP x) (ho : x.lo ≤ x.hi) : 0 < nW x := by
  have := (nW_iff hx ho 0).1 (by simpa using ho)
  omega
theorem wt_nxN {x : Rt} (hx : rtP x) (ho : x.lo ≤ x.hi) : nxW x (wL x (nW x)) (nW x) = x.hi + 1 := by
  have h0 := nW_pos hx ho
  rw [nxW, if_neg (by omega), wL_get (by omega), wt_last hx ho (by omega)]
theorem wt_cw {x : Rt} (hx : rtP x) (ho : x.lo ≤ x.hi) {k : Nat} (h : k < nW x) : cwN x (wL x (nW x)) k = unb (!(rsN (wL x k) (wtF x k) k).2 || decide (x.r ≤ (rsN (wL x k) (wtF x k) k).1)) 24 := by
  have hw := hx.2.2.2.1
  have h1 := (nW_iff hx ho k).2 h
  have e := wL_get (x := x) h
  have er : rsN (wL x (nW x)) (wtF x k) k = rsN (wL x k) (wtF x k) k := rsN_congr fun i hi => by rw [wL_get (by omega), wL_get hi]
  rw [cw_b (by rw [e]; exact wt_p hx ho k) (by rw [e, wt_nx hx ho h]) (by
    rw [e]
    show x.lo + k * x.w ≤ min x.hi (x.lo + k * x.w + x.w - 1) ∧ min x.hi (x.lo + k * x.w + x.w - 1) ≤ x.hi
    omega), cwB, e, er, unl, decide_eq_true]
  · rw [fstE, if_pos (by rfl), fstE, fstE]
    split
    · rename_i h; exact h.symm
    · rfl
  · show min x.hi (x.lo + k * x.w + x.w - 1) + 1 - (x.lo + k * x.w) ≤ x.w
    omega
theorem wt_cf {x : Rt} (hx : rtP x) (ho : x.lo ≤ x.hi) {k : Nat} (h : k < nW x) : cwN x (wL x (nW x)) k = if cfX x k then 24 else 0 := by
  rw [wt_cw hx ho h]
  by_cases hr : (rsN (wL x k) (wtF x k) k).2 = true
  rotate_left
  · have hr : (rsN (wL x k) (wtF x k) k).2 = false := by simpa using hr
    rw [if_neg (fun hh => by have := hh.1; rw [hr] at this; cases this), hr]; rfl
  · by_cases hq : x.r ≤ (rsN (wL x k) (wtF x k) k).1
    · rw [if_neg (fun hh => by have := hh.2; omega), hr, decide_eq_true hq]; rfl
    · rw [if_pos ⟨hr, by omega⟩, hr, decide_eq_false hq]; rfl
theorem wt_cwE {x : Rt} (h0 : rtE x = 0) (h40 : x.hi - x.lo < 40 * x.w) : (cwE x (wL x (nW x))).2 = if noX x then 0 else 24 := by
  obtain ⟨hx, ho⟩ := rtE_ok h0
  have hn := nW_40 hx ho h40
  have hl : (wL x (nW x)).length = nW x := accL_len _ _
  have hp := nW_pos hx ho
  rw [cwE, if_pos h0, if_neg (by omega), hl]
  by_cases hno : noX x
  · have he : (eachN (cwN x (wL x (nW x))) 0 (nW x)).2 = 0 := eachN_ok.2 fun i hi => by rw [wt_cf hx ho hi, if_neg (hno i hi)]
    rw [if_pos he, if_pos hno, wt_nxN hx ho]
    show unl _ 21 = 0
    rw [unl, decide_eq_true ⟨by omega, rfl⟩]; rfl
  · rw [if_neg hno]
    have hex : ∃ k, k < nW x ∧ (∀ i, i < k → ¬ cfX x i) ∧ cfX x k := by
      have : ∀ n, (¬ ∀ k, k < n → ¬ cfX x k) → ∃ k, k < n ∧ (∀ i, i < k → ¬ cfX x i) ∧ cfX x k := fun n => by
        induction n with
        | zero => intro h; exact absurd (fun k hk => by omega) h
        | succ n ih =>
          intro h
          by_cases h1 : ∀ k, k < n → ¬ cfX x k
          · by_cases h2 : cfX x n
            · exact ⟨n, Nat.lt_succ_self _, h1, h2⟩
            · exact absurd (succ_all h1 h2) h
          · obtain ⟨k, h2, h3⟩ := ih h1
            exact ⟨k, by omega, h3⟩
      exact this _ hno
    obtain ⟨k, h1, h2, h3⟩ := hex
    have ek : cwN x (wL x (nW x)) k = 24 := by rw [wt_cf hx ho h1, if_pos h3]
    have he := eachN_e (f := cwN x (wL x (nW x))) h1 (fun i hi => by rw [wt_cf hx ho (show i < nW x by omega), if_neg (h2 i hi)]) (by rw [ek]; decide)
    rw [he, ek]; rfl
theorem wfE_eq {x : Rt} (h0 : rtE x = 0) (h40 : x.hi - x.lo < 40 * x.w) : wfE x = (if (cwE x (wL x (nW x))).2 = 0 then wL x (nW x) else [], (cwE x (wL x (nW x))).2) := by
  rw [wt_cwE h0 h40, wfE, if_pos h0, if_neg (by omega)]
  by_cases h : noX x
  · rw [if_pos h, if_pos h, if_pos rfl]
  · rw [if_neg h, if_neg h, if_neg (by decide)]
theorem cfX_iff {x : Rt} (hx : rtP x) (ho : x.lo ≤ x.hi) {k : Nat} (hk : k < nW x) : cfX x k ↔ x.p ≤ (k : Int) ∧ (x.p - 1) * x.w < x.r := by
  have hp := hx.2.2.1
  have hw := hx.2.2.2.1
  have e := rsN_iff (x := x) (l := wL x k) (w := wtF x k) (n := k) (fun i j h1 h2 => by
    rw [wL_get (show i < k by omega), wL_get h2, wt_hi hx ho (by omega), wt_hi hx ho (by omega)]
    have : (i : Int) * x.w ≤ j * x.w := Int.mul_le_mul_of_nonneg_right (by omega) (by omega)
    omega)
  rw [cfX, e]
  have hc : ∀ m, m < k → (cflP x (wL x k) (wtF x k) m ↔ (m : Int) % x.p = (k : Int) % x.p ∧ ((k : Int) - m - 1) * x.w < x.r) := fun m hm => by
    rw [cflP, wL_get hm, wt_hi hx ho (by omega)]
    show (m : Int).tmod x.p = (k : Int).tmod x.p ∧ x.lo + k * x.w - (x.lo + m * x.w + x.w - 1) - 1 < x.r ↔ _
    rw [Int.tmod_eq_emod_of_nonneg (by omega), Int.tmod_eq_emod_of_nonneg (by omega)]
    have : ((k : Int) - m - 1) * x.w = k * x.w - m * x.w - x.w := by rw [Int.sub_mul, Int.sub_mul, Int.one_mul]
    rw [this]
    constructor
    · rintro ⟨h1, h2⟩; exact ⟨h1, by omega⟩
    · rintro ⟨h1, h2⟩; exact ⟨h1, by omega⟩
  constructor
  · rintro ⟨m, hm, h⟩
    obtain ⟨h1, h2⟩ := (hc m hm).1 h
    have hd : x.p ∣ (k : Int) - m := Int.dvd_of_emod_eq_zero (by rw [Int.sub_emod, h1, Int.sub_self]; rfl)
    have h3 := Int.le_of_dvd (by omega) hd
    refine ⟨by omega, ?_⟩
    have : (x.p - 1) * x.w ≤ ((k : Int) - m - 1) * x.w := Int.mul_le_mul_of_nonneg_right (by omega) (by omega)
    omega
  · rintro ⟨h1, h2⟩
    refine ⟨k - x.p.toNat, by omega, (hc _ (by omega)).2 ⟨?_, ?_⟩⟩
    · rw [show ((k - x.p.toNat : Nat) : Int) = (k : Int) - x.p by omega, Int.sub_emod_right]
    · rw [show ((k - x.p.toNat : Nat) : Int) = (k : Int) - x.p by omega, show (k : Int) - ((k : Int) - x.p) - 1 = x.p - 1 by omega]
      exact h2
theorem noX_mono {x y : Rt} (hx : rtP x) (hy : rtP y) (ho : x.lo ≤ x.hi) (e1 : y.lo = x.lo) (e2 : y.hi = x.hi) (e3 : y.w = x.w) (hp : x.p ≤ y.p) (hr : y.r ≤ x.r) (h : noX x) : noX y := fun k hk hc => by
  have en : nW y = nW x := by rw [nW, nW, e1, e2, e3]
  have h1 := (cfX_iff hy (by omega) hk).1 hc
  refine h k (by omega) ((cfX_iff hx ho (by omega)).2 ⟨by omega, ?_⟩)
  have := hx.2.2.2.1
  have h2 : (x.p - 1) * x.w ≤ (y.p - 1) * x.w := Int.mul_le_mul_of_nonneg_right (by omega) (by omega)
  rw [e3] at h1
  omega
theorem C7 {x : Rt} {l : List Wt} : PFD Try.prog 7 [rtv x, .c (trs l)] (vbl true) := by
  by_cases hl : (l.length : Int) ≤ 42
  rotate_left
  · refine pi1 fn7 ?_
    (repeat' first | (refine Owe.same ?_; first | refine Owe.o ?_ | refine Owe.mk ?_ ?_) | (refine Fork.same ?_; (first | refine fkY ?_ | refine fkF ?_ | ((first | refine fkD ?_ ?_ | refine fkN ?_ ?_ | refine fkM ?_ ?_) <;> intro h))) | ((first | refine OpsL.same ?_ | refine OpsDL.same ?_); first | refine oK C9 rfl rfl rfl ?_) | refine MvQ.stay ?_)
    (refine rqK rfl ?_; (repeat' first | exact rfl | (refine qS ?_; constructor)))
  have c1 := C32 (x := x)
  have c2 := C34 (l := l) (by omega)
  have c3 := C33 (x := x) (l := l) (by omega)
  have c4 := C35 (x := x)
  by_cases h0 : rtE x = 0
  rotate_left
  · rw [wfE, if_neg h0] at c1
    rw [cwE, if_neg h0] at c3
    generalize rtE x = e at *
    refine pi1 fn7 ?_
    (repeat' first | (refine Owe.same ?_; first | refine Owe.o ?_ | refine Owe.mk ?_ ?_) | (refine Fork.same ?_; (first | refine fkY ?_ | refine fkF ?_ | ((first | refine fkD ?_ ?_ | refine fkN ?_ ?_ | refine fkM ?_ ?_) <;> intro h))) | ((first | refine OpsL.same ?_ | refine OpsDL.same ?_); first | refine oK C9 rfl rfl rfl ?_ | refine oK c1 rfl rfl rfl ?_ | refine oK c2 rfl rfl rfl ?_ | refine oK c3 rfl rfl rfl ?_ | refine oK c4 rfl rfl rfl ?_) | refine MvQ.stay ?_)
    (refine rqK rfl ?_; (repeat' first | exact rfl | (refine qS ?_; constructor)))
  obtain ⟨hx, ho⟩ := rtE_ok h0
  have b1 := hx.1
  have b2 := hx.2.1
  have b3 := hx.2.2.1
  have b4 := hx.2.2.2.1
  have b5 := hx.2.2.2.2
  have c5 := C38 (x := x) (l := l) ⟨h0, by omega⟩
  rw [h0] at c4
  by_cases h40 : x.hi - x.lo < 40 * x.w
  rotate_left
  · rw [wfE, if_pos h0, if_pos (by omega)] at c1
    generalize cwE x l = Q at *
    refine pi1 fn7 ?_
    (repeat' first | (refine Owe.same ?_; first | refine Owe.o ?_ | refine Owe.mk ?_ ?_) | (refine Fork.same ?_; (first | refine fkY ?_ | refine fkF ?_ | ((first | refine fkD ?_ ?_ | refine fkN ?_ ?_ | refine fkM ?_ ?_) <;> intro h))) | ((first | refine OpsL.same ?_ | refine OpsDL.same ?_); first | refine oK C9 rfl rfl rfl ?_ | refine oK c1 rfl rfl rfl ?_ | refine oK c2 rfl rfl rfl ?_ | refine oK c3 rfl rfl rfl ?_ | refine oK c4 rfl rfl rfl ?_ | refine oK c5 rfl rfl rfl ?_) | refine MvQ.stay ?_)
    (refine rqK rfl ?_; (repeat' first | exact rfl | (refine qS ?_; constructor)))
  have c6 := C36 (x := x) ⟨h0, h40⟩
  have ew := wfE_eq h0 h40
  have hlen : (wL x (nW x)).length ≤ 40 := by
    have := nW_40 hx ho h40
    rw [accL_len]; omega
  have ec := wt_cwE h0 h40
  by_cases hno : noX x
  · have hz : (cwE x (wL x (nW x))).2 = 0 := by rw [ec, if_pos hno]
    rw [hz, if_pos rfl] at c6
    rw [hz, if_pos rfl] at ew
    rw [ew] at c1
    have c7 := C37 (l := wL x (nW x)) (m := wL x (nW x)) (by omega)
    rw [decide_eq_true rfl] at c7
    have c8 := C34 (l := wL x (nW x)) (by omega)
    have c9 := C33 (x := x) (l := wL x (nW x)) (by omega)
    rw [hz] at c9
    have htd : 0 ≤ x.r.tdiv 2 ∧ x.r.tdiv 2 ≤ x.r := by
      rw [Int.tdiv_eq_ediv_of_nonneg (by omega)]; omega
    have hy : rtP ⟨x.lo, x.hi, x.p, x.w, x.r.tdiv 2⟩ := ⟨b1, b2, b3, b4, by show 0 ≤ x.r.tdiv 2 ∧ x.r.tdiv 2 ≤ 10000; omega⟩
    have hz2 : rtP ⟨x.lo, x.hi, min 6 (x.p + 1), x.w, x.r⟩ := ⟨b1, b2, by show 1 ≤ min 6 (x.p + 1) ∧ min 6 (x.p + 1) ≤ 6; omega, b4, b5⟩
    have d1 := C32 (x := ⟨x.lo, x.hi, x.p, x.w, x.r.tdiv 2⟩)
    have d2 := C32 (x := ⟨x.lo, x.hi, min 6 (x.p + 1), x.w, x.r⟩)
    have n1 : noX ⟨x.lo, x.hi, x.p, x.w, x.r.tdiv 2⟩ := noX_mono hx hy ho rfl rfl rfl (Int.le_refl _) htd.2 hno
    have n2 : noX ⟨x.lo, x.hi, min 6 (x.p + 1), x.w, x.r⟩ := noX_mono hx hz2 ho rfl rfl rfl (by show x.p ≤ min 6 (x.p + 1); omega) (Int.le_refl _) hno
    have e1 : (wfE ⟨x.lo, x.hi, x.p, x.w, x.r.tdiv 2⟩).2 = 0 := by
      rw [wfE, rtE, if_pos hy, if_pos ho, if_pos rfl, if_neg (by show ¬ x.hi - x.lo + 1 > 40 * x.w; omega), if_pos n1]
    have e2 : (wfE ⟨x.lo, x.hi, min 6 (x.p + 1), x.w, x.r⟩).2 = 0 := by
      rw [wfE, rtE, if_pos hz2, if_pos ho, if_pos rfl, if_neg (by show ¬ x.hi - x.lo + 1 > 40 * x.w; omega), if_pos n2]
    rw [e1] at d1
    rw [e2] at d2
    generalize (wfE ⟨x.lo, x.hi, x.p, x.w, x.r.tdiv 2⟩).1 = L1 at *
    generalize (wfE ⟨x.lo, x.hi, min 6 (x.p + 1), x.w, x.r⟩).1 = L2 at *
    generalize cwE x l = Q at *
    generalize (cwE x (wL x (nW x))).1 = Q2 at *
    generalize wL x (nW x) = L at *
    refine pi1 fn7 ?_
    (repeat' first | (refine Owe.same ?_; first | refine Owe.o ?_ | refine Owe.mk ?_ ?_) | (refine Fork.same ?_; (first | refine fkY ?_ | refine fkF ?_ | ((first | refine fkD ?_ ?_ | refine fkN ?_ ?_ | refine fkM ?_ ?_) <;> intro h))) | ((first | refine OpsL.same ?_ | refine OpsDL.same ?_); first | refine oK C9 rfl rfl rfl ?_ | refine oK c1 rfl rfl rfl ?_ | refine oK c2 rfl rfl rfl ?_ | refine oK c3 rfl rfl rfl ?_ | refine oK c4 rfl rfl rfl ?_ | refine oK c5 rfl rfl rfl ?_ | refine oK c6 rfl rfl rfl ?_ | refine oK c7 rfl rfl rfl ?_ | refine oK c8 rfl rfl rfl ?_ | refine oK c9 rfl rfl rfl ?_ | refine oK d1 rfl rfl rfl ?_ | refine oK d2 rfl rfl rfl ?_) | refine MvQ.stay ?_)
    (refine rqK rfl ?_; (repeat' first | exact rfl | (refine qS ?_; constructor)))
  · have hz : (cwE x (wL x (nW x))).2 = 24 := by rw [ec, if_neg hno]
    rw [hz, if_neg (by decide)] at c6
    rw [hz, if_neg (by decide)] at ew
    rw [ew] at c1
    have c7 := C37 (l := []) (m := []) (by decide)
    rw [decide_eq_true rfl] at c7
    generalize cwE x l = Q at *
    refine pi1 fn7 ?_
    (repeat' first | (refine Owe.same ?_; first | refine Owe.o ?_ | refine Owe.mk ?_ ?_) | (refine Fork.same ?_; (first | refine fkY ?_ | refine fkF ?_ | ((first | refine fkD ?_ ?_ | refine fkN ?_ ?_ | refine fkM ?_ ?_) <;> intro h))) | ((first | refine OpsL.same ?_ | refine OpsDL.same ?_); first | refine oK C9 rfl rfl rfl ?_ | refine oK c1 rfl rfl rfl ?_ | refine oK c2 rfl rfl rfl ?_ | refine oK c3 rfl rfl rfl ?_ | refine oK c4 rfl rfl rfl ?_ | refine oK c5 rfl rfl rfl ?_ | refine oK c6 rfl rfl rfl ?_ | refine oK c7 rfl rfl rfl ?_) | refine MvQ.stay ?_)
    (refine rqK rfl ?_; (repeat' first | exact rfl | (refine qS ?_; constructor)))
end Go.Pw

namespace Go.Proofs.Ytnimcgmgnmlfgaa
open Go.ChangeShapes Go.WideShapes Go.ChangeAt Go.RowKit Go.Pw
theorem Try.own : ownKnob Try.prog.godebug = none := by kernel_rfl
theorem Try.laidOut : laidOutB Try.prog = true := by kernel_rfl
theorem shapes : shAll Try.prog [65, 66] = some [(true, [.int .i64, .int .i64, .int .i64, .int .i64, .int .i64]), (false, [.sl [.int .i64, .int .i64, .int .i64]])] := by kernel_rfl
theorem law (args : List V) (h : ArgOk [(true, [.int .i64, .int .i64, .int .i64, .int .i64, .int .i64]), (false, [.sl [.int .i64, .int .i64, .int .i64]])] args) : PFD Try.prog 7 args (vbl true) := by
  match args, h with
  | [v0, v1], ⟨h0, h1, _⟩ =>
    obtain ⟨x0, rfl⟩ := arg_rota h0
    obtain ⟨l1, r1⟩ := arg_wts h1
    exact PFD.ri C7 (.cons (RI.refl _) (.cons r1 .nil))
set_option maxRecDepth 100000 in
theorem lifted (os : Os) (started : os.Started) (H : Type) (enc : TypeId × Value → H) :
    ReturnsInHanded {} Try.checked os 7 .any (Rows.diveWatchesSpec.pre6 enc Try.prog Try.f7 Rows.diveWatchesRow.domain false) (Rows.diveWatchesSpec.post enc Try.prog Try.f7 false true false false) := by
  refine returnsInHanded_of_change (C := Try.checked) Try.own started (by kernel_rfl) Try.func7
    (ChangeSpec.witness6 (enc := enc) (C := Try.checked) false ⟨#[], #[.agg #[.int .i64 0, .int .i64 0, .int .i64 0, .int .i64 0, .int .i64 0], .slice none 0 0], []⟩ 8 (by kernel_rfl) (by kernel_rfl) (by kernel_rfl) (by kernel_rfl)) ?_
  intro W base args ds gs before hval0 hW hcnd _
  exact law_calls (P := Try.prog) (F := Try.f7) (tb := 4) Try.laidOut (by rw [Try.params7]; exact shapes) rfl (fun ds hl => by
    rw [Try.params7] at hl
    match ds, hl with
    | [d0, d1], _ => rfl) (by kernel_rfl) Try.underlying4 law W base args ds gs before hval0 hW
theorem row_holds : Rows.DiveWatchesSaid :=
  OpenClaim.holds_of_wide 7 Try.f7 rfl rfl rfl rfl rfl rfl rfl ⟨rfl, rfl, rfl, rfl, rfl⟩ rfl rfl rfl rfl rfl (by kernel_rfl) Try.func7 (by kernel_rfl)
    (of_decide_eq_true (by kernel_rfl)) (by unfold Func.isWrapper; rw [if_neg (by decide +kernel)]; exact ⟨rfl, rfl⟩)
    (fun os started H enc _ => lifted os started H enc)
end Go.Proofs.Ytnimcgmgnmlfgaa
