/- Proved here at the end: the row named in the last theorem, on no condition. -/
import Derived.Test.YtnimcgmgnmlfgaaDiveReturnsD
import Derived.Test.YtnimcgmgnmlfgaaProg
import Derived.Test.YtnimcgmgnmlfgaaRows
set_option linter.unusedSimpArgs false
set_option linter.unusedVariables false
set_option maxHeartbeats 4000000
namespace Go.Pw
set_option maxRecDepth 2000
open Go Go.Proofs A1 A2 A3 A4
abbrev tkC (t : Tk) : List C := [str t.n, int t.p, int t.d, int t.w, int t.o, int t.v, int t.lo, int t.hi, ints t.a]
abbrev rgP (t : Tk) : Prop := ((0 ≤ t.p ∧ t.p ≤ 4) ∧ isN t.d ∧ isN t.w ∧ isN t.o ∧ isN t.v) ∧ isT t.lo ∧ isT t.hi
theorem odd4 {a b c d : Int} : oddI [a, b, c, d] = false ↔ isN a ∧ isN b ∧ isN c ∧ isN d := by
  simp [oddI]
theorem tkE_n {l : List Tk} {k : Nat} (h : ¬ nmP (l.getD k tk0).n) : tkE l k = 4 := by
  have e : tkF l k (l.getD k tk0) = 4 := by rw [tkF, unl, decide_eq_false h]; rfl
  rw [tkE, e]; rfl
theorem tkE_k {l : List Tk} {k : Nat} (h : nmP (l.getD k tk0).n) (h1 : knB l k (l.getD k tk0).n = true) : tkE l k = 5 := by
  have e : tkF l k (l.getD k tk0) = 5 := by rw [tkF, h1, unl, decide_eq_true h]; rfl
  rw [tkE, e]; rfl
theorem fst_00 {b : Bool} {x : Int} : fstE [0, 0, unb b 2, x] = if b = true then x else 2 := by
  cases b
  · rfl
  · show (if x = 0 then 0 else x) = x
    split
    · rename_i h; exact h.symm
    · rfl
theorem tksE_eq {lo hi : Int} : tksE lo hi = if isT lo ∧ isT hi then unl (lo ≤ hi) 9 else 2 := by
  rw [tksE]
  by_cases h : isT lo ∧ isT hi
  · rw [if_pos h, unl, decide_eq_true h]
    by_cases h1 : lo ≤ hi
    · rw [unl, decide_eq_true h1]; rfl
    · rw [unl, decide_eq_false h1]; rfl
  · rw [if_neg h, unl, decide_eq_false h]; rfl
theorem tkE_g {l : List Tk} {k : Nat} (h : nmP (l.getD k tk0).n) (h1 : knB l k (l.getD k tk0).n = false) : tkF l k (l.getD k tk0) = if rgP (l.getD k tk0) then unl ((l.getD k tk0).lo ≤ (l.getD k tk0).hi) 9 else 2 := by
  rw [tkF, h1, unl, decide_eq_true h]
  generalize l.getD k tk0 = t
  show fstE [0, 0, unb _ 2, _] = _
  rw [fst_00, tksE_eq]
  by_cases h2 : 0 ≤ t.p ∧ t.p ≤ 4
  · rcases ho : oddI [t.d, t.w, t.o, t.v] with _ | _
    · have h3 := odd4.1 ho
      rw [decide_eq_true h2, if_pos (show (true && !false) = true from rfl)]
      by_cases h4 : isT t.lo ∧ isT t.hi
      · rw [if_pos h4, if_pos ⟨⟨h2, h3⟩, h4⟩]
      · rw [if_neg h4, if_neg (fun hh => h4 hh.2)]
    · rw [if_neg (by simp), if_neg]
      rintro ⟨⟨_, h3⟩, _⟩
      rw [odd4.2 h3] at ho; cases ho
  · rw [decide_eq_false h2, if_neg (by simp), if_neg (fun hh => h2 hh.1.1)]
theorem tkE_r {l : List Tk} {k : Nat} (h : nmP (l.getD k tk0).n) (h1 : knB l k (l.getD k tk0).n = false) (h2 : ¬ rgP (l.getD k tk0)) : tkE l k = 2 := by
  have e := tkE_g h h1
  rw [if_neg h2] at e
  rw [tkE, e]; rfl
theorem tkE_o {l : List Tk} {k : Nat} (h : nmP (l.getD k tk0).n) (h1 : knB l k (l.getD k tk0).n = false) (h2 : rgP (l.getD k tk0)) (h3 : ¬ (l.getD k tk0).lo ≤ (l.getD k tk0).hi) : tkE l k = 9 := by
  have e := tkE_g h h1
  rw [if_pos h2, unl, decide_eq_false h3] at e
  rw [tkE, e]; rfl
theorem tkE_a {l : List Tk} {k : Nat} (h : nmP (l.getD k tk0).n) (h1 : knB l k (l.getD k tk0).n = false) (h2 : rgP (l.getD k tk0)) (h3 : (l.getD k tk0).lo ≤ (l.getD k tk0).hi) : tkE l k = (ascE (l.getD k tk0).a k).2 := by
  have e := tkE_g h h1
  rw [if_pos h2, unl, decide_eq_true h3] at e
  rw [tkE, e]; rfl
theorem ascN_6 {l : List Int} {b : Int} {j : Nat} (h : ¬ (0 ≤ l.getD j 0 ∧ l.getD j 0 ≤ b - 1)) : ascN l b j = 6 := by
  rw [ascN, unl, decide_eq_false h]; rfl
theorem ascN_9 {l : List Int} {b : Int} {j : Nat} (h : 0 ≤ l.getD j 0 ∧ l.getD j 0 ≤ b - 1) (hj : 0 < j) (h1 : l.getD j 0 ≤ l.getD (j - 1) 0) : ascN l b j = 9 := by
  rw [ascN, unl, decide_eq_true h, lastI, if_neg (by omega), unl, decide_eq_false (by omega)]; rfl
theorem ascN_0 {l : List Int} {b : Int} {j : Nat} (h : 0 ≤ l.getD j 0 ∧ l.getD j 0 ≤ b - 1) (h1 : 0 < j → l.getD (j - 1) 0 < l.getD j 0) : ascN l b j = 0 := by
  rw [ascN, fst2, unl0 (by decide), unl0 (by decide)]
  refine ⟨h, ?_⟩
  rw [lastI]
  split
  · omega
  · exact h1 (by omega)
theorem C64 {l : List Tk} : (l.length ≤ 1000000 ∧ TkSm l) → PFD Try.prog 64 [.c (tks l)] (.tup [vi .i64 (tsE l).1, vi .i64 (tsE l).2]) := fun ⟨hl, hs⟩ => by
  obtain ⟨q, hq⟩ : ∃ q, q = tsE l := ⟨_, rfl⟩
  rw [← hq]
  rw [tsE] at hq
  refine pi2 fn64 ?_
  (repeat' first | (refine Owe.same ?_; first | refine Owe.o ?_ | refine Owe.mk ?_ ?_) | (refine Fork.same ?_; (first | refine fkD ?_ ?_ | refine fkN ?_ ?_ | refine fkM ?_ ?_) <;> intro h) | refine MvQ.stay ?_)
  · rw [if_pos (by omega)] at hq; subst hq; (refine rqK rfl ?_; (repeat' first | exact rfl | (refine qS ?_; constructor)))
  · rw [if_neg (by omega)] at hq
    clear h
    have hret : ∀ {k}, k < l.length → (∀ i, i < k → tkE l i = 0) → ∀ {e}, tkE l k = e → ¬ e = 0 → q = ((k : Int), e) := fun hk h1 e he h2 => by
      have h3 := eachN_e hk h1 (by rw [he]; exact h2)
      rw [h3, he] at hq; exact hq
    refine Sat.lp0 (fun k : Nat => [(4, vi .i64 k), (0, .c (tks l))]) (fun k => k ≤ l.length ∧ ∀ i, i < k → tkE l i = 0) (fun k => l.length - k) 0 ⟨Nat.zero_le _, fun i hi => by omega⟩ (by ((first | refine qen ?_ | refine qvs ?_ | refine qeq ?_ | refine qst ?_ | refine qv ?_ | refine qc ?_ | refine qe ?_ | refine qcs ?_ | skip); (repeat' first | exact rfl | (refine qS ?_; constructor)))) ?_
    intro k hk
    refine Fork.dec (fun hlt => ?_) (fun hlt => ?_)
    · have hlt : k < l.length := by omega
      obtain ⟨s1, s2⟩ := hs k hlt
      have hret := fun {e} => @hret k hlt hk.2 e
      have c1 := C102 (s := (l.getD k tk0).n) s1
      (repeat' first | (refine Owe.same ?_; first | refine Owe.o ?_ | refine Owe.mk ?_ ?_) | (refine Fork.same ?_; (first | refine fkD ?_ ?_ | refine fkN ?_ ?_ | refine fkM ?_ ?_) <;> intro h) | ((first | refine OpsL.same ?_ | refine OpsDL.same ?_); first | refine pK c1 rfl rfl ?_) | refine MvQ.stay ?_)
      · have hx := hret (tkE_n (by simpa using h)) (by decide)
        subst hx; (refine rqK rfl ?_; (repeat' first | exact rfl | (refine qS ?_; constructor)))
      · have hn : nmP (l.getD k tk0).n := by simpa using h
        clear h
        refine Sat.lp (fun j : Nat => ⟨[(6, vi .i64 j), (5, .c (.bp 0 0)), (4, vi .i64 k), (0, .c (tks l))], [(0, .box (tkC (l.getD k tk0)))], 1⟩) (fun j => j ≤ k ∧ ∀ i, i < j → decide ((l.getD i tk0).n.data.toList = (l.getD k tk0).n.data.toList) = false) (fun j => k - j) 0 [0] ⟨Nat.zero_le _, fun i hi => by omega⟩ ?_ ?_
        · (refine qis ?_ ?_ <;> (repeat' first | exact rfl | (refine qS ?_; constructor)))
        · intro j hj
          refine Fork.dec (fun hlj => ?_) (fun hlj => ?_)
          · have hlj : j < k := by omega
            (repeat' first | (refine Owe.same ?_; first | refine Owe.o ?_ | refine Owe.mk ?_ ?_) | (refine Fork.same ?_; (first | refine fkD ?_ ?_ | refine fkN ?_ ?_ | refine fkM ?_ ?_) <;> intro h) | refine MvQ.stay ?_)
            · have h : (l.getD j tk0).n.data.toList = (l.getD k tk0).n.data.toList := h
              have hx := hret (tkE_k hn (anyN_t hlj (decide_eq_true h))) (by decide)
              subst hx; (refine rqK rfl ?_; (repeat' first | exact rfl | (refine qS ?_; constructor)))
            · have h : ¬ (l.getD j tk0).n.data.toList = (l.getD k tk0).n.data.toList := h
              refine again (j + 1) [0] ⟨hlj, succ_all hj.2 (decide_eq_false h)⟩ (by omega) ?_
              (refine qis ?_ ?_ <;> (repeat' first | exact rfl | (refine qS ?_; constructor)))
          · have : j = k := by omega
            subst this
            have hkn := anyN_f.2 hj.2
            have hr := tkE_r hn hkn
            have ho := tkE_o hn hkn
            have ha := tkE_a hn hkn
            (repeat' first | (refine Owe.same ?_; first | refine Owe.o ?_ | refine Owe.mk ?_ ?_) | (refine Fork.same ?_; (first | refine fkD ?_ ?_ | refine fkN ?_ ?_ | refine fkM ?_ ?_) <;> intro h) | ((first | refine OpsL.same ?_ | refine OpsDL.same ?_); first | refine pK C19 rfl rfl ?_ | refine pK C65 rfl rfl ?_ | refine pK C66 rfl rfl ?_) | refine MvQ.stay ?_)
            all_goals try (
              have hx := hret (hr (fun hh => by
                obtain ⟨⟨g1, g2, g3, g4, g5⟩, g6, g7⟩ := hh
                first | exact h g1 | exact h g2 | exact h g3 | exact h g4 | exact h g5 | exact h g6 | exact h g7)) (by decide)
              subst hx
              (refine rqK rfl ?_; (repeat' first | exact rfl | (refine qS ?_; constructor)))
              done)
            all_goals
              obtain ⟨g7, g6, g5, g4, g3, g2, g1⟩ := (show _ ∧ _ ∧ _ ∧ _ ∧ _ ∧ _ ∧ _ from ⟨by assumption, by assumption, by assumption, by assumption, by assumption, by assumption, by assumption⟩ : isT (l.getD j tk0).hi ∧ isT (l.getD j tk0).lo ∧ isN (l.getD j tk0).v ∧ isN (l.getD j tk0).o ∧ isN (l.getD j tk0).w ∧ isN (l.getD j tk0).d ∧ (0 ≤ (l.getD j tk0).p ∧ (l.getD j tk0).p ≤ 4))
              have hg : rgP (l.getD j tk0) := ⟨⟨g1, g2, g3, g4, g5⟩, g6, g7⟩
            · have h : (l.getD j tk0).hi < (l.getD j tk0).lo := h
              have hx := hret (ho hg (by omega)) (by decide)
              subst hx
              (refine rqK rfl ?_; (repeat' first | exact rfl | (refine qS ?_; constructor)))
            · have h : ¬ (l.getD j tk0).hi < (l.getD j tk0).lo := h
              have ha := ha hg (by omega)
              clear hr ho hj hkn hlj
              refine Sat.lp (fun m : Nat => ⟨[(7, vi .i64 m), (5, .c (.bp 0 0)), (4, vi .i64 j), (0, .c (tks l))], [(0, .box (tkC (l.getD j tk0)))], 1⟩) (fun m => m ≤ (l.getD j tk0).a.length ∧ ∀ i, i < m → ascN (l.getD j tk0).a j i = 0) (fun m => (l.getD j tk0).a.length - m) 0 [0] ⟨Nat.zero_le _, fun i hi => by omega⟩ ?_ ?_
              · (refine qis ?_ ?_ <;> (repeat' first | exact rfl | (refine qS ?_; constructor)))
              · intro m hm
                refine Fork.dec (fun hlm => ?_) (fun hlm => ?_)
                · have hlm : m < (l.getD j tk0).a.length := by omega
                  have hr : ∀ {e}, ascN (l.getD j tk0).a j m = e → ¬ e = 0 → q = ((j : Int), e) := fun he h2 => by
                    refine hret ?_ h2
                    rw [ha, ascE, eachN_e hlm hm.2 (by rw [he]; exact h2)]
                    exact he
                  (repeat' first | (refine Owe.same ?_; first | refine Owe.o ?_ | refine Owe.mk ?_ ?_) | (refine Fork.same ?_; (first | refine fkD ?_ ?_ | refine fkN ?_ ?_ | refine fkM ?_ ?_) <;> intro h) | ((first | refine OpsL.same ?_ | refine OpsDL.same ?_); first | refine pK C19 rfl rfl ?_) | refine MvQ.stay ?_)
                  · have hx := hr (ascN_6 h) (by decide)
                    subst hx
                    (refine rqK rfl ?_; (repeat' first | exact rfl | (refine qS ?_; constructor)))
                  · have hx := hr (ascN_9 ‹_› (by omega) (by rw [show m - 1 = ((m : Int) - 1).toNat by omega]; exact h)) (by decide)
                    subst hx
                    (refine rqK rfl ?_; (repeat' first | exact rfl | (refine qS ?_; constructor)))
                  · have h0 := ascN_0 (l := (l.getD j tk0).a) (b := j) (j := m) ‹_› (fun _ => by
                      have h : ¬ (l.getD j tk0).a.getD m 0 ≤ (l.getD j tk0).a.getD ((m : Int) - 1).toNat 0 := h
                      rw [show m - 1 = ((m : Int) - 1).toNat by omega]; omega)
                    refine again (m + 1) [0] ⟨hlm, succ_all hm.2 h0⟩ (by omega) ?_
                    (refine qis ?_ ?_ <;> (repeat' first | exact rfl | (refine qS ?_; constructor)))
                  · have h0 := ascN_0 (l := (l.getD j tk0).a) (b := j) (j := m) ‹_› (fun hh => by omega)
                    refine again (m + 1) [0] ⟨hlm, succ_all hm.2 h0⟩ (by omega) ?_
                    (refine qis ?_ ?_ <;> (repeat' first | exact rfl | (refine qS ?_; constructor)))
                · have : m = (l.getD j tk0).a.length := by omega
                  subst this
                  rw [ascE, eachN_z hm.2] at ha
                  (repeat' first | (refine Owe.same ?_; first | refine Owe.o ?_ | refine Owe.mk ?_ ?_) | (refine Fork.same ?_; (first | refine fkD ?_ ?_ | refine fkN ?_ ?_ | refine fkM ?_ ?_) <;> intro h) | refine MvQ.stay ?_)
                  exact again0 (j + 1) ⟨hlt, succ_all hk.2 ha⟩ (by omega) (by ((first | refine qen ?_ | refine qvs ?_ | refine qeq ?_ | refine qst ?_ | refine qv ?_ | refine qc ?_ | refine qe ?_ | refine qcs ?_ | skip); (repeat' first | exact rfl | (refine qS ?_; constructor))))
    · have : k = l.length := by omega
      subst this
      rw [eachN_z hk.2] at hq
      subst hq
      (repeat' first | (refine Owe.same ?_; first | refine Owe.o ?_ | refine Owe.mk ?_ ?_) | (refine Fork.same ?_; (first | refine fkD ?_ ?_ | refine fkN ?_ ?_ | refine fkM ?_ ?_) <;> intro h) | refine MvQ.stay ?_)
      (refine rqK rfl ?_; (repeat' first | exact rfl | (refine qS ?_; constructor)))
end Go.Pw

set_option linter.unusedSimpArgs false
set_option linter.unusedVariables false
set_option maxHeartbeats 4000000
namespace Go.Pw
set_option maxRecDepth 2000
open Go Go.Proofs A1 A2 A3 A4
theorem hm_1 {s : Si} {i : Nat} (h : ¬ isN (s.ho.getD i 0)) : hmN s i = 2 := by
  rw [hmN, unl, decide_eq_false h]; rfl
theorem hm_2 {s : Si} {i : Nat} (h : isN (s.ho.getD i 0)) (h1 : ¬ ((s.tr.getD i []).length : Int) = s.ho.length) : hmN s i = 10 := by
  rw [hmN, unl, decide_eq_true h, unl, decide_eq_false h1]; rfl
theorem hm_3 {s : Si} {i j : Nat} (h : isN (s.ho.getD i 0)) (h1 : ((s.tr.getD i []).length : Int) = s.ho.length) (hj : j < s.ho.length) (h2 : ¬ isN ((s.tr.getD i []).getD j 0) ∨ (i = j ∧ (s.tr.getD i []).getD j 0 ≠ 0)) : hmN s i = 2 := by
  have hb : hmB s i = false := by
    rcases h2 with h2 | ⟨rfl, h2⟩
    · have : oddI (s.tr.getD i []) = true := List.any_eq_true.2 ⟨_, getD_mem 0 (show j < (s.tr.getD i []).length by omega), by rw [decide_eq_false h2]; rfl⟩
      rw [hmB, this]; rfl
    · rw [hmB, decide_eq_false (by omega), decide_eq_false h2]; simp
  rw [hmN, hb, unl, decide_eq_true h, unl, decide_eq_true h1]; rfl
theorem hm_0 {s : Si} {i : Nat} (h : isN (s.ho.getD i 0)) (h1 : ((s.tr.getD i []).length : Int) = s.ho.length) (h2 : ∀ j, j < s.ho.length → isN ((s.tr.getD i []).getD j 0) ∧ (i = j → (s.tr.getD i []).getD j 0 = 0)) (hi : i < s.ho.length) : hmN s i = 0 := by
  have hb : hmB s i = true := by
    have : oddI (s.tr.getD i []) = false := List.any_eq_false.2 fun x hx => by
      obtain ⟨j, hj, rfl⟩ := List.getElem_of_mem hx
      have := (h2 j (by omega)).1
      rw [List.getD_eq_getElem?_getD, List.getElem?_eq_getElem hj] at this
      simpa using this
    rw [hmB, this, decide_eq_true ((h2 i hi).2 rfl)]; simp
  rw [hmN, hb, unl, decide_eq_true h, unl, decide_eq_true h1]; rfl
theorem ti_2 {s : Si} {i : Nat} (h : ¬ ((isT (s.ti.getD i (0, 0, 0)).1 ∧ isT (s.ti.getD i (0, 0, 0)).2.1) ∧ isN (s.ti.getD i (0, 0, 0)).2.2)) : tiN s i = 2 := by
  rw [tiN, tiF, unl, decide_eq_false h]; rfl
theorem ti_9 {s : Si} {i : Nat} (h : (isT (s.ti.getD i (0, 0, 0)).1 ∧ isT (s.ti.getD i (0, 0, 0)).2.1) ∧ isN (s.ti.getD i (0, 0, 0)).2.2) (h1 : ¬ ((s.ti.getD i (0, 0, 0)).1 ≤ (s.ti.getD i (0, 0, 0)).2.1 ∧ lastT s i < (s.ti.getD i (0, 0, 0)).1)) : tiN s i = 9 := by
  rw [tiN, tiF, unl, decide_eq_true h, unl, decide_eq_false h1]; rfl
theorem ti_0 {s : Si} {i : Nat} (h : (isT (s.ti.getD i (0, 0, 0)).1 ∧ isT (s.ti.getD i (0, 0, 0)).2.1) ∧ isN (s.ti.getD i (0, 0, 0)).2.2) (h1 : (s.ti.getD i (0, 0, 0)).1 ≤ (s.ti.getD i (0, 0, 0)).2.1 ∧ lastT s i < (s.ti.getD i (0, 0, 0)).1) : tiN s i = 0 := by
  rw [tiN, tiF, unl, decide_eq_true h, unl, decide_eq_true h1]; rfl
theorem lastT_of {s : Si} {i : Nat} {x : Int} (h : 0 ≤ x) : lastT s i < x ↔ ¬ (0 < i ∧ x ≤ (s.ti.getD (i - 1) (0, 0, 0)).2.1) := by
  rw [lastT]
  split <;> omega
theorem C16 {s : Si} : SiSm s → PFD Try.prog 16 [siv s] (.tup [vi .i64 (siE s).1, vi .i64 (siE s).2]) := fun hs => by
  obtain ⟨stk, st, str, sr, sho, sti⟩ := hs
  obtain ⟨q, hq⟩ : ∃ q, q = siE s := ⟨_, rfl⟩
  rw [← hq]
  rw [siE] at hq
  have c1 := C64 (l := s.tk) ⟨stk, st⟩
  refine pi2 fn16 ?_
  (repeat' first | (refine Owe.same ?_; first | refine Owe.o ?_ | refine Owe.mk ?_ ?_) | (refine Fork.same ?_; (first | refine fkD ?_ ?_ | refine fkN ?_ ?_ | refine fkM ?_ ?_) <;> intro h) | ((first | refine OpsL.same ?_ | refine OpsDL.same ?_); first | refine pK c1 rfl rfl ?_) | refine MvQ.stay ?_)
  · rw [if_neg h] at hq; subst hq; (refine rqK rfl ?_; (repeat' first | exact rfl | (refine qS ?_; constructor)))
  · rename_i h0
    have e : hoE s = 10 := by rw [hoE, unl, decide_eq_false (by omega)]; rfl
    rw [if_pos h0, if_neg (by rw [e]; decide), e] at hq
    subst hq; (refine rqK rfl ?_; (repeat' first | exact rfl | (refine qS ?_; constructor)))
  · rename_i h0 h1
    have e : hoE s = 8 := by rw [hoE, unl, decide_eq_true (show (s.ho.length : Int) > 0 by omega), unl, decide_eq_false (by omega)]; rfl
    rw [if_pos h0, if_neg (by rw [e]; decide), e] at hq
    subst hq; (refine rqK rfl ?_; (repeat' first | exact rfl | (refine qS ?_; constructor)))
  · rename_i h0 h1 h2
    have e : hoE s = 10 := by rw [hoE, unl, decide_eq_true (show (s.ho.length : Int) > 0 by omega), unl, decide_eq_true (by omega), unl, decide_eq_false (by omega)]; rfl
    rw [if_pos h0, if_neg (by rw [e]; decide), e] at hq
    subst hq; (refine rqK rfl ?_; (repeat' first | exact rfl | (refine qS ?_; constructor)))
  · rename_i h0 h1 h2
    have e : hoE s = 0 := by rw [hoE, unl, decide_eq_true (show (s.ho.length : Int) > 0 by omega), unl, decide_eq_true (by omega), unl, decide_eq_true (by omega)]; rfl
    rw [if_pos h0, if_pos e] at hq
    have hret : ∀ {k}, k < s.ho.length → (∀ i, i < k → hmN s i = 0) → ∀ {e}, hmN s k = e → ¬ e = 0 → q = ((k : Int), e) := fun hk h1 e he h2 => by
      have e := eachN_e hk h1 (by rw [he]; exact h2)
      rw [if_neg (by rw [e, he]; exact h2), e, he] at hq; exact hq
    refine Sat.lp0 (fun k : Nat => [(6, vi .i64 k), (1, .c (.rp (siD s)))]) (fun k => k ≤ s.ho.length ∧ ∀ i, i < k → hmN s i = 0) (fun k => s.ho.length - k) 0 ⟨Nat.zero_le _, fun i hi => by omega⟩ (by ((first | refine qen ?_ | refine qvs ?_ | refine qeq ?_ | refine qst ?_ | refine qv ?_ | refine qc ?_ | refine qe ?_ | refine qcs ?_ | skip); (repeat' first | exact rfl | (refine qS ?_; constructor)))) ?_
    intro k hk
    refine Fork.dec (fun hlt => ?_) (fun hlt => ?_)
    · have hlt : k < s.ho.length := by omega
      have hret := fun {e} => @hret k hlt hk.2 e
      (repeat' first | (refine Owe.same ?_; first | refine Owe.o ?_ | refine Owe.mk ?_ ?_) | (refine Fork.same ?_; (first | refine fkD ?_ ?_ | refine fkN ?_ ?_ | refine fkM ?_ ?_) <;> intro h) | ((first | refine OpsL.same ?_ | refine OpsDL.same ?_); first | refine pK C65 rfl rfl ?_) | refine MvQ.stay ?_)
      · have h : ¬ isN (s.ho.getD k 0) := by simpa using h
        have hx := hret (hm_1 h) (by decide)
        subst hx; (refine rqK rfl ?_; (repeat' first | exact rfl | (refine qS ?_; constructor)))
      · rename_i h3
        have h3 : isN (s.ho.getD k 0) := by simpa using h3
        simp only [Int.toNat_natCast] at h
        have hx := hret (hm_2 h3 h) (by decide)
        subst hx; (refine rqK rfl ?_; (repeat' first | exact rfl | (refine qS ?_; constructor)))
      · rename_i h3
        have h3 : isN (s.ho.getD k 0) := by simpa using h3
        simp only [Int.toNat_natCast] at h
        have h4 : ((s.tr.getD k []).length : Int) = s.ho.length := by simpa using h
        clear h
        refine Sat.lp0 (fun j : Nat => [(7, vi .i64 j), (6, vi .i64 k), (1, .c (.rp (siD s)))]) (fun j => j ≤ s.ho.length ∧ ∀ i, i < j → isN ((s.tr.getD k []).getD i 0) ∧ (k = i → (s.tr.getD k []).getD i 0 = 0)) (fun j => s.ho.length - j) 0 ⟨Nat.zero_le _, fun i hi => by omega⟩ (by ((first | refine qen ?_ | refine qvs ?_ | refine qeq ?_ | refine qst ?_ | refine qv ?_ | refine qc ?_ | refine qe ?_ | refine qcs ?_ | skip); (repeat' first | exact rfl | (refine qS ?_; constructor)))) ?_
        intro j hj
        refine Fork.dec (fun hlj => ?_) (fun hlj => ?_)
        · have hlj : j < s.ho.length := by omega
          have hr := fun h => hret (hm_3 h3 h4 hlj h) (by decide)
          (repeat' first | (refine Owe.same ?_; first | refine Owe.o ?_ | refine Owe.mk ?_ ?_) | (refine Fork.same ?_; (first | refine fkD ?_ ?_ | refine fkN ?_ ?_ | refine fkM ?_ ?_) <;> intro h) | ((first | refine OpsL.same ?_ | refine OpsDL.same ?_); first | refine pK C65 rfl rfl ?_) | refine MvQ.stay ?_)
          · have hx := hr (.inl h)
            subst hx
            (refine rqK rfl ?_; (repeat' first | exact rfl | (refine qS ?_; constructor)))
          · rename_i g1 g2
            have hx := hr (.inr ⟨by omega, h⟩)
            subst hx
            (refine rqK rfl ?_; (repeat' first | exact rfl | (refine qS ?_; constructor)))
          · rename_i g1 g2
            exact again0 (j + 1) ⟨hlj, succ_all hj.2 ⟨g1, fun _ => h⟩⟩ (by omega) (by ((first | refine qen ?_ | refine qvs ?_ | refine qeq ?_ | refine qst ?_ | refine qv ?_ | refine qc ?_ | refine qe ?_ | refine qcs ?_ | skip); (repeat' first | exact rfl | (refine qS ?_; constructor))))
          · rename_i g1
            exact again0 (j + 1) ⟨hlj, succ_all hj.2 ⟨g1, fun e => absurd (show (k : Int) = j by omega) h⟩⟩ (by omega) (by ((first | refine qen ?_ | refine qvs ?_ | refine qeq ?_ | refine qst ?_ | refine qv ?_ | refine qc ?_ | refine qe ?_ | refine qcs ?_ | skip); (repeat' first | exact rfl | (refine qS ?_; constructor))))
        · have : j = s.ho.length := by omega
          subst this
          (repeat' first | (refine Owe.same ?_; first | refine Owe.o ?_ | refine Owe.mk ?_ ?_) | (refine Fork.same ?_; (first | refine fkD ?_ ?_ | refine fkN ?_ ?_ | refine fkM ?_ ?_) <;> intro h) | refine MvQ.stay ?_)
          exact again0 (k + 1) ⟨hlt, succ_all hk.2 (hm_0 h3 h4 hj.2 hlt)⟩ (by omega) (by ((first | refine qen ?_ | refine qvs ?_ | refine qeq ?_ | refine qst ?_ | refine qv ?_ | refine qc ?_ | refine qe ?_ | refine qcs ?_ | skip); (repeat' first | exact rfl | (refine qS ?_; constructor))))
    · have : k = s.ho.length := by omega
      subst this
      rw [if_pos (eachN_ok.2 hk.2)] at hq
      clear hret hk hlt
      have hret : ∀ {k}, k < s.tk.length → (∀ i, i < k → plN s i = 0) → ∀ {e}, plN s k = e → ¬ e = 0 → q = ((k : Int), e) := fun hk h1 e he h2 => by
        have e := eachN_e hk h1 (by rw [he]; exact h2)
        rw [if_neg (by rw [e, he]; exact h2), e, he] at hq; exact hq
      (repeat' first | (refine Owe.same ?_; first | refine Owe.o ?_ | refine Owe.mk ?_ ?_) | (refine Fork.same ?_; (first | refine fkD ?_ ?_ | refine fkN ?_ ?_ | refine fkM ?_ ?_) <;> intro h) | refine MvQ.stay ?_)
      refine Sat.lp0 (fun k : Nat => [(8, vi .i64 k), (1, .c (.rp (siD s)))]) (fun k => k ≤ s.tk.length ∧ ∀ i, i < k → plN s i = 0) (fun k => s.tk.length - k) 0 ⟨Nat.zero_le _, fun i hi => by omega⟩ (by ((first | refine qen ?_ | refine qvs ?_ | refine qeq ?_ | refine qst ?_ | refine qv ?_ | refine qc ?_ | refine qe ?_ | refine qcs ?_ | skip); (repeat' first | exact rfl | (refine qS ?_; constructor)))) ?_
      intro k hk
      refine Fork.dec (fun hlt => ?_) (fun hlt => ?_)
      · have hlt : k < s.tk.length := by omega
        (repeat' first | (refine Owe.same ?_; first | refine Owe.o ?_ | refine Owe.mk ?_ ?_) | (refine Fork.same ?_; (first | refine fkD ?_ ?_ | refine fkN ?_ ?_ | refine fkM ?_ ?_) <;> intro h) | refine MvQ.stay ?_)
        · have h : (s.ho.length : Int) ≤ (s.tk.getD k tk0).p := h
          have hx := hret hlt hk.2 (e := 6) (by rw [plN, unl, decide_eq_false (by omega)]; rfl) (by decide)
          subst hx
          (refine rqK rfl ?_; (repeat' first | exact rfl | (refine qS ?_; constructor)))
        · have h : ¬ (s.ho.length : Int) ≤ (s.tk.getD k tk0).p := h
          exact again0 (k + 1) ⟨hlt, succ_all hk.2 (by rw [plN, unl, decide_eq_true (by omega)]; rfl)⟩ (by omega) (by ((first | refine qen ?_ | refine qvs ?_ | refine qeq ?_ | refine qst ?_ | refine qv ?_ | refine qc ?_ | refine qe ?_ | refine qcs ?_ | skip); (repeat' first | exact rfl | (refine qS ?_; constructor))))
      · have : k = s.tk.length := by omega
        subst this
        rw [if_pos (eachN_ok.2 hk.2)] at hq
        clear hret hk hlt
        (repeat' first | (refine Owe.same ?_; first | refine Owe.o ?_ | refine Owe.mk ?_ ?_) | (refine Fork.same ?_; (first | refine fkD ?_ ?_ | refine fkN ?_ ?_ | refine fkM ?_ ?_) <;> intro h) | refine MvQ.stay ?_)
        · rw [if_pos h] at hq; subst hq; (refine rqK rfl ?_; (repeat' first | exact rfl | (refine qS ?_; constructor)))
        · rw [if_neg h] at hq
          have hret : ∀ {k}, k < s.ti.length → (∀ i, i < k → tiN s i = 0) → ∀ {e}, tiN s k = e → ¬ e = 0 → q = ((k : Int), e) := fun hk h1 e he h2 => by
            have e := eachN_e hk h1 (by rw [he]; exact h2)
            rw [if_neg (by rw [e, he]; exact h2), e, he] at hq; exact hq
          refine Sat.lp0 (fun k : Nat => [(9, vi .i64 k), (1, .c (.rp (siD s)))]) (fun k => k ≤ s.ti.length ∧ ∀ i, i < k → tiN s i = 0) (fun k => s.ti.length - k) 0 ⟨Nat.zero_le _, fun i hi => by omega⟩ (by ((first | refine qen ?_ | refine qvs ?_ | refine qeq ?_ | refine qst ?_ | refine qv ?_ | refine qc ?_ | refine qe ?_ | refine qcs ?_ | skip); (repeat' first | exact rfl | (refine qS ?_; constructor)))) ?_
          intro k hk
          refine Fork.dec (fun hlt => ?_) (fun hlt => ?_)
          · have hlt : k < s.ti.length := by omega
            have hret := fun {e} => @hret k hlt hk.2 e
            have h2 := fun h => hret (ti_2 h) (by decide)
            have h9 := fun h h' => hret (ti_9 h h') (by decide)
            have h0 := fun h h' => ti_0 (s := s) (i := k) h h'
            have hla := fun h => lastT_of (s := s) (i := k) (x := (s.ti.getD k (0, 0, 0)).1) h
            (repeat' first | (refine Owe.same ?_; first | refine Owe.o ?_ | refine Owe.mk ?_ ?_) | (refine Fork.same ?_; (first | refine fkD ?_ ?_ | refine fkN ?_ ?_ | refine fkM ?_ ?_) <;> intro h) | ((first | refine OpsL.same ?_ | refine OpsDL.same ?_); first | refine pK C66 rfl rfl ?_ | refine pK C65 rfl rfl ?_) | refine MvQ.stay ?_)
            · have hx := h2 (fun hh => h hh.1.1)
              subst hx
              (refine rqK rfl ?_; (repeat' first | exact rfl | (refine qS ?_; constructor)))
            · have hx := h2 (fun hh => h hh.1.2)
              subst hx
              (refine rqK rfl ?_; (repeat' first | exact rfl | (refine qS ?_; constructor)))
            · have hx := h2 (fun hh => h hh.2)
              subst hx
              (refine rqK rfl ?_; (repeat' first | exact rfl | (refine qS ?_; constructor)))
            · have h : (s.ti.getD k (0, 0, 0)).2.1 < (s.ti.getD k (0, 0, 0)).1 := h
              have hx := h9 ⟨⟨‹_›, ‹_›⟩, ‹_›⟩ (fun hh => by omega)
              subst hx
              (refine rqK rfl ?_; (repeat' first | exact rfl | (refine qS ?_; constructor)))
            · rename_i g1 g2 g3 g4 g5
              have h : (s.ti.getD k (0, 0, 0)).1 ≤ (s.ti.getD ((k : Int) - 1).toNat (0, 0, 0)).2.1 := h
              rw [show ((k : Int) - 1).toNat = k - 1 by omega] at h
              have hx := h9 ⟨⟨g1, g2⟩, g3⟩ (fun hh => (hla g1.1).1 hh.2 ⟨by omega, h⟩)
              subst hx
              (refine rqK rfl ?_; (repeat' first | exact rfl | (refine qS ?_; constructor)))
            · rename_i g1 g2 g3 g4 g5
              have h : ¬ (s.ti.getD k (0, 0, 0)).1 ≤ (s.ti.getD ((k : Int) - 1).toNat (0, 0, 0)).2.1 := h
              have g4 : ¬ (s.ti.getD k (0, 0, 0)).2.1 < (s.ti.getD k (0, 0, 0)).1 := g4
              rw [show ((k : Int) - 1).toNat = k - 1 by omega] at h
              exact again0 (k + 1) ⟨hlt, succ_all hk.2 (h0 ⟨⟨g1, g2⟩, g3⟩ ⟨by omega, (hla g1.1).2 (fun hh => h hh.2)⟩)⟩ (by omega) (by ((first | refine qen ?_ | refine qvs ?_ | refine qeq ?_ | refine qst ?_ | refine qv ?_ | refine qc ?_ | refine qe ?_ | refine qcs ?_ | skip); (repeat' first | exact rfl | (refine qS ?_; constructor))))
            · rename_i g1 g2 g3 g4
              have g4 : ¬ (s.ti.getD k (0, 0, 0)).2.1 < (s.ti.getD k (0, 0, 0)).1 := g4
              exact again0 (k + 1) ⟨hlt, succ_all hk.2 (h0 ⟨⟨g1, g2⟩, g3⟩ ⟨by omega, (hla g1.1).2 (fun hh => by omega)⟩)⟩ (by omega) (by ((first | refine qen ?_ | refine qvs ?_ | refine qeq ?_ | refine qst ?_ | refine qv ?_ | refine qc ?_ | refine qe ?_ | refine qcs ?_ | skip); (repeat' first | exact rfl | (refine qS ?_; constructor))))
          · have : k = s.ti.length := by omega
            subst this
            rw [if_pos (eachN_ok.2 hk.2)] at hq
            have hf : ¬ (((isN s.idle ∧ isN s.swim) ∧ isN s.res) ∧ isT s.fin) → q = (0, 2) := fun h => by rw [hq, enE, unl, decide_eq_false h]; rfl
            have ht : (((isN s.idle ∧ isN s.swim) ∧ isN s.res) ∧ isT s.fin) → q = (0, 0) := fun h => by rw [hq, enE, unl, decide_eq_true h]; rfl
            clear hq
            (repeat' first | (refine Owe.same ?_; first | refine Owe.o ?_ | refine Owe.mk ?_ ?_) | (refine Fork.same ?_; (first | refine fkD ?_ ?_ | refine fkN ?_ ?_ | refine fkM ?_ ?_) <;> intro h) | ((first | refine OpsL.same ?_ | refine OpsDL.same ?_); first | refine pK C66 rfl rfl ?_ | refine pK C65 rfl rfl ?_) | refine MvQ.stay ?_)
            · have hx := hf (fun hh => h hh.1.1.1)
              subst hx
              (refine rqK rfl ?_; (repeat' first | exact rfl | (refine qS ?_; constructor)))
            · have hx := hf (fun hh => h hh.1.1.2)
              subst hx
              (refine rqK rfl ?_; (repeat' first | exact rfl | (refine qS ?_; constructor)))
            · have hx := hf (fun hh => h hh.1.2)
              subst hx
              (refine rqK rfl ?_; (repeat' first | exact rfl | (refine qS ?_; constructor)))
            · have hx := hf (fun hh => h hh.2)
              subst hx
              (refine rqK rfl ?_; (repeat' first | exact rfl | (refine qS ?_; constructor)))
            · rename_i g1 g2 g3
              have hx := ht ⟨⟨⟨g1, g2⟩, g3⟩, h⟩
              subst hx
              (refine rqK rfl ?_; (repeat' first | exact rfl | (refine qS ?_; constructor)))
end Go.Pw

set_option linter.unusedVariables false
set_option maxHeartbeats 2000000
set_option maxRecDepth 100000
namespace Go.Pw
open Go Go.Proofs
/-- moonpool/moonpoolref08.CopySite -/
def lc13m : LCode :=
  (.seq (.region [⟨some 1, .boxS (.tmp 0), none⟩, ⟨some 2, .alloc [(.slice none 0 0), (.slice none 0 0), (.slice none 0 0), (.slice none 0 0), (.int .i64 0), (.int .i64 0), (.int
    .i64 0), (.int .i64 0)], none⟩]) (.seq (.region [⟨some 5, .load true 8 (.tmp 1), none⟩, ⟨some 3, .alloc [(.slice none 0 0), (.slice none 0 0), (.slice none 0 0), (.slice none 0
    0), (.int .i64 0), (.int .i64 0), (.int .i64 0), (.int .i64 0)], none⟩, ⟨none, .store 8 (.tmp 3) (.tmp 5), none⟩]) (.seq (.region [⟨some 6, .fld 0 (.tmp 1), none⟩, ⟨some 7,
    .load false 1 (.tmp 6), none⟩, ⟨some 8, .call (.func 61) [(.tmp 7)], none⟩, ⟨some 9, .fld 0 (.tmp 3), none⟩, ⟨none, .store 1 (.tmp 9) (.tmp 8), none⟩]) (.seq (.region [⟨some 10,
    .fld 1 (.tmp 3), none⟩, ⟨none, .store 1 (.tmp 10) (.const (.slice none 0 0)), none⟩]) (.seq (.seq (.region [⟨some 4, .mv (.const (.int .i64 0)), none⟩]) (.block 0 (.loop (.seq
    (.seq (.region [⟨some 11, .mv (.tmp 4), none⟩, ⟨some 12, .fld 1 (.tmp 1), none⟩, ⟨some 13, .load false 1 (.tmp 12), none⟩, ⟨some 14, .len (.tmp 13), none⟩, ⟨some 15, .bin .lss
    (.tmp 11) (.tmp 14), none⟩]) (.cond (.tmp 15) .skip (.exit 0))) (.seq (.block 1 (.regionD [⟨some 18, .fld 1 (.tmp 3), none⟩, ⟨some 19, .load false 1 (.tmp 18), none⟩, ⟨some 20,
    .fld 1 (.tmp 1), none⟩, ⟨some 21, .load false 1 (.tmp 20), none⟩, ⟨some 22, .mv (.tmp 4), none⟩, ⟨some 23, .idx 1 (.tmp 21) (.tmp 22), none⟩, ⟨some 24, .load false 1 (.tmp 23),
    none⟩, ⟨some 25, .call (.func 29) [(.tmp 24)], none⟩, ⟨some 26, .lit false 24 1 [(.tmp 25)], none⟩, ⟨some 27, .append true 24 1 24 (.tmp 19) (.tmp 26), none⟩, ⟨some 28, .fld 1
    (.tmp 3), none⟩, ⟨none, .store 1 (.tmp 28) (.tmp 27), none⟩] [0, 1, 0, 4, 0, 28, 60, 124, 252, 511, 1023, 2047] [0, 1, 2, 3, 4, 5, 6, 7, 8, 9, 10, 11])) (.region [⟨some 16, .mv
    (.tmp 4), none⟩, ⟨some 17, .bin .add (.tmp 16) (.const (.int .i64 1)), none⟩, ⟨some 4, .mv (.tmp 17), none⟩])))))) (.seq (.region [⟨some 29, .fld 2 (.tmp 1), none⟩, ⟨some 30,
    .load false 1 (.tmp 29), none⟩, ⟨some 31, .call (.func 29) [(.tmp 30)], none⟩, ⟨some 32, .fld 2 (.tmp 3), none⟩, ⟨none, .store 1 (.tmp 32) (.tmp 31), none⟩]) (.seq (.region
    [⟨some 33, .lit false 103 3 [], none⟩, ⟨some 34, .fld 3 (.tmp 1), none⟩, ⟨some 35, .load false 1 (.tmp 34), none⟩, ⟨some 36, .append false 103 3 24 (.tmp 33) (.tmp 35), none⟩,
    ⟨some 37, .fld 3 (.tmp 3), none⟩, ⟨none, .store 1 (.tmp 37) (.tmp 36), none⟩]) (.seq (.region [⟨some 38, .load true 8 (.tmp 3), none⟩, ⟨none, .store 8 (.tmp 2) (.tmp 38),
    none⟩]) .ret))))))))
theorem low13m : lowF Try.prog [1, 27] Try.f13 = some (39, lc13m.strip, [.cell 2 true 8]) := by kernel_rfl
theorem fn13m : FnOk Try.prog 13 39 lc13m [.cell 2 true 8] := ⟨Try.call13, [1, 27], _, Try.func13, low13m⟩
end Go.Pw

set_option linter.unusedSimpArgs false
set_option linter.unusedVariables false
set_option maxHeartbeats 4000000
namespace Go.Pw
set_option maxRecDepth 2000
open Go Go.Proofs A1 A2 A3 A4
theorem C29 {l : List Int} : l.length ≤ 1000000 → PFD Try.prog 29 [.c (ints l)] (.c (ints l)) := fun h => by
  refine pi1 fn29 ?_
  (repeat' first | (refine Owe.same ?_; first | refine Owe.o ?_ | refine Owe.mk ?_ ?_) | (refine Fork.same ?_; (first | refine fkD ?_ ?_ | refine fkN ?_ ?_ | refine fkM ?_ ?_) <;> intro h) | refine MvQ.stay ?_)
  (refine rqK rfl ?_; (repeat' first | exact rfl | (refine qS ?_; constructor)))
theorem C15 {t : St8} : t.d.length ≤ 1000000 → PFD Try.prog 15 [stv t] (stv t) := fun h => by
  have c1 := C29 (l := t.d) h
  refine pi1 fn15 ?_
  (repeat' first | (refine Owe.same ?_; first | refine Owe.o ?_ | refine Owe.mk ?_ ?_) | (refine Fork.same ?_; (first | refine fkD ?_ ?_ | refine fkN ?_ ?_ | refine fkM ?_ ?_) <;> intro h) | ((first | refine OpsL.same ?_ | refine OpsDL.same ?_); first | refine pK c1 rfl rfl ?_) | refine MvQ.stay ?_)
  (refine rqK rfl ?_; (repeat' first | exact rfl | (refine qS ?_; constructor)))
theorem C61 {l : List Tk} : (l.length ≤ 1000000 ∧ TkSm l) → PFD Try.prog 61 [.c (tks l)] (.c (tks l)) := fun ⟨hl, hs⟩ => by
  refine pi1 fn61 ?_
  (repeat' first | (refine Owe.same ?_; first | refine Owe.o ?_ | refine Owe.mk ?_ ?_) | (refine Fork.same ?_; (first | refine fkD ?_ ?_ | refine fkN ?_ ?_ | refine fkM ?_ ?_) <;> intro h) | refine MvQ.stay ?_)
  refine Sat.nilS 3 99 9 (fun i => tkr (([] : List Tk).getD i tk0)) rfl ?_
  refine Sat.lp (fun k : Nat => ⟨[(4, vi .i64 k), (0, .c (tks l)), (3, .c (.ms 0 (l.take k).length))], [(0, rowv 99 9 tkr tk0 (l.take k))], 1⟩) (fun k => k ≤ l.length) (fun k => l.length - k) 0 [0] (Nat.zero_le _) ?_ ?_
  · (refine qis ?_ ?_ <;> (repeat' first | exact rfl | (refine qS ?_; constructor)))
  · intro k hk
    refine Fork.dec (fun hlt => ?_) (fun hlt => ?_)
    · have hlt : k < l.length := by omega
      have c1 := C29 (l := (l.getD k tk0).a) (hs k hlt).2
      have hl1 : (l.take k).length = k := by rw [List.length_take]; omega
      have htk : l.take (k + 1) = l.take k ++ [l.getD k tk0] := by
        rw [List.take_add_one, List.getElem?_eq_getElem hlt, List.getD_eq_getElem?_getD, List.getElem?_eq_getElem hlt]; rfl
      (repeat' first | (refine Owe.same ?_; first | refine Owe.o ?_ | refine Owe.mk ?_ ?_) | (refine Fork.same ?_; (first | refine fkD ?_ ?_ | refine fkN ?_ ?_ | refine fkM ?_ ?_) <;> intro h) | ((first | refine OpsL.same ?_ | refine OpsDL.same ?_); first | refine pK c1 rfl rfl ?_) | refine MvQ.stay ?_)
      refine again (k + 1) [2] hlt (by omega) ?_
      rw [htk]
      (refine qis ?_ ?_ <;> (repeat' first | exact rfl | (refine qS ?_; constructor)))
      · simp
      · exact ⟨l.getD k tk0, rfl, rfl⟩
    · have : k = l.length := by omega
      subst this
      (repeat' first | (refine Owe.same ?_; first | refine Owe.o ?_ | refine Owe.mk ?_ ?_) | (refine Fork.same ?_; (first | refine fkD ?_ ?_ | refine fkN ?_ ?_ | refine fkM ?_ ?_) <;> intro h) | refine MvQ.stay ?_)
      rw [List.take_length]
      refine rqF 0 _ rfl rfl rfl ?_; (repeat' first | exact rfl | (refine qS ?_; constructor))
theorem C13 {s : Si} : SiSm s → PFD Try.prog 13 [siv s] (siv s) := fun hs => by
  have c1 := C61 (l := s.tk) ⟨hs.tk, hs.t⟩
  have c2 := C29 (l := s.ho) hs.ho
  have htr := hs.tr
  have hti := hs.ti
  refine pi1 fn13m ?_
  (repeat' first | (refine Owe.same ?_; first | refine Owe.o ?_ | refine Owe.mk ?_ ?_) | (refine Fork.same ?_; (first | refine fkD ?_ ?_ | refine fkN ?_ ?_ | refine fkM ?_ ?_) <;> intro h) | ((first | refine OpsL.same ?_ | refine OpsDL.same ?_); first | refine pK c1 rfl rfl ?_) | refine MvQ.stay ?_)
  refine Sat.nilB 1 1 24 1 (fun i => [intsD (([] : List (List Int)).getD i [])]) rfl rfl ?_
  refine Sat.lp (fun k : Nat => ⟨[(4, vi .i64 k), (1, .c (.rp (siD s))), (2, .c (.bp 0 0)), (3, .c (.bp 1 0))], [(2, rowv 24 1 (fun l => [intsD l]) [] (s.tr.take k)), (1, .box [.d (tksD s.tk), .ms 2 (s.tr.take k).length, ints s.ho, trs s.ti, int s.idle, int s.swim, int s.res, int s.fin]), (0, .box [.d (.v (.slice none 0 0)), .d (.v (.slice none 0 0)), .d (.v (.slice none 0 0)), .d (.v (.slice none 0 0)), int 0, int 0, int 0, int 0])], 3⟩) (fun k => k ≤ s.tr.length) (fun k => s.tr.length - k) 0 [0, 1, 2] (Nat.zero_le _) ?_ ?_
  · (refine qis ?_ ?_ <;> (repeat' first | exact rfl | (refine qS ?_; constructor)))
  · intro k hk
    refine Fork.dec (fun hlt => ?_) (fun hlt => ?_)
    · have hlt : k < s.tr.length := by omega
      have c3 := C29 (l := s.tr.getD k []) (hs.r k hlt)
      have hl1 : (s.tr.take k).length = k := by rw [List.length_take]; omega
      have htk : s.tr.take (k + 1) = s.tr.take k ++ [s.tr.getD k []] := by
        rw [List.take_add_one, List.getElem?_eq_getElem hlt, List.getD_eq_getElem?_getD, List.getElem?_eq_getElem hlt]; rfl
      (repeat' first | (refine Owe.same ?_; first | refine Owe.o ?_ | refine Owe.mk ?_ ?_) | (refine Fork.same ?_; (first | refine fkD ?_ ?_ | refine fkN ?_ ?_ | refine fkM ?_ ?_) <;> intro h) | ((first | refine OpsL.same ?_ | refine OpsDL.same ?_); first | refine pK c3 rfl rfl ?_) | refine MvQ.stay ?_)
      refine again (k + 1) [0, 1, 11] hlt (by omega) ?_
      rw [htk]
      (refine qis ?_ ?_ <;> (repeat' first | exact rfl | (refine qS ?_; constructor)))
      · exact ⟨s.tr.getD k [], rfl, rfl⟩
      · simp
    · have : k = s.tr.length := by omega
      subst this
      rw [List.take_length]
      (repeat' first | (refine Owe.same ?_; first | refine Owe.o ?_ | refine Owe.mk ?_ ?_) | (refine Fork.same ?_; (first | refine fkD ?_ ?_ | refine fkN ?_ ?_ | refine fkM ?_ ?_) <;> intro h))
      refine MvQ.frzX 1 1 2 rfl rfl rfl (Nat.le_refl _) ?_
      (repeat' first | (refine Owe.same ?_; first | refine Owe.o ?_ | refine Owe.mk ?_ ?_) | (refine Fork.same ?_; (first | refine fkD ?_ ?_ | refine fkN ?_ ?_ | refine fkM ?_ ?_) <;> intro h) | ((first | refine OpsL.same ?_ | refine OpsDL.same ?_); first | refine pK c2 rfl rfl ?_) | refine MvQ.stay ?_)
      (refine rqK rfl ?_; (repeat' first | exact rfl | (refine qS ?_; constructor)))
end Go.Pw

set_option linter.unusedSimpArgs false
set_option linter.unusedVariables false
set_option maxHeartbeats 4000000
namespace Go.Pw
set_option maxRecDepth 2000
open Go Go.Proofs A1 A2 A3 A4
/-- The reference's error of a state of a site. -/
def rsE (s : Si) (t : St8) : Int × Int := if 0 ≤ t.p ∧ t.p ≤ (s.ho.length : Int) - 1 then (if (isT t.t ∧ 0 ≤ t.w ∧ t.w ≤ 100000000) ∧ isN t.o then ascE t.d s.tk.length else (0, 2)) else (0, 6)
theorem rsE_eq {s : Si} {t : St8} (h : (siE s).2 = 0) : stE s t = rsE s t := by
  have e : stF s t = if 0 ≤ t.p ∧ t.p ≤ (s.ho.length : Int) - 1 then (if (isT t.t ∧ 0 ≤ t.w ∧ t.w ≤ 100000000) ∧ isN t.o then 0 else 2) else 6 := by
    rw [stF, h]
    by_cases h1 : 0 ≤ t.p ∧ t.p ≤ (s.ho.length : Int) - 1
    · rw [if_pos h1, unl, decide_eq_true h1]
      by_cases h2 : (isT t.t ∧ 0 ≤ t.w ∧ t.w ≤ 100000000) ∧ isN t.o
      · rw [if_pos h2, stN, unl, decide_eq_true h2]; rfl
      · rw [if_neg h2, stN, unl, decide_eq_false h2]; rfl
    · rw [if_neg h1, unl, decide_eq_false h1]; rfl
  rw [stE, e, rsE]
  by_cases h1 : 0 ≤ t.p ∧ t.p ≤ (s.ho.length : Int) - 1
  · by_cases h2 : (isT t.t ∧ 0 ≤ t.w ∧ t.w ≤ 100000000) ∧ isN t.o
    · simp only [if_pos h1, if_pos h2]; rfl
    · simp only [if_pos h1, if_neg h2]; rfl
  · simp only [if_neg h1]; rfl
theorem C17 {s : Si} {t : St8} : (SiSm s ∧ t.d.length ≤ 1000000) → PFD Try.prog 17 [siv s, stv t] (.tup [vi .i64 (rsE s t).1, vi .i64 (rsE s t).2]) := fun ⟨hs, ht⟩ => by
  have hho := hs.ho
  have htk := hs.tk
  obtain ⟨q, hq⟩ : ∃ q, q = rsE s t := ⟨_, rfl⟩
  rw [← hq]
  rw [rsE] at hq
  refine pi2 fn17 ?_
  (repeat' first | (refine Owe.same ?_; first | refine Owe.o ?_ | refine Owe.mk ?_ ?_) | (refine Fork.same ?_; (first | refine fkD ?_ ?_ | refine fkN ?_ ?_ | refine fkM ?_ ?_) <;> intro h) | ((first | refine OpsL.same ?_ | refine OpsDL.same ?_); first | refine pK C19 rfl rfl ?_ | refine pK C66 rfl rfl ?_ | refine pK C65 rfl rfl ?_) | refine MvQ.stay ?_)
  · rw [if_neg h] at hq; subst hq; (refine rqK rfl ?_; (repeat' first | exact rfl | (refine qS ?_; constructor)))
  · rename_i h1
    rw [if_pos h1, if_neg (fun hh => h hh.1.1)] at hq; subst hq; (refine rqK rfl ?_; (repeat' first | exact rfl | (refine qS ?_; constructor)))
  · rename_i h1 h2
    rw [if_pos h1, if_neg (fun hh => h hh.1.2)] at hq; subst hq; (refine rqK rfl ?_; (repeat' first | exact rfl | (refine qS ?_; constructor)))
  · rename_i h1 h2 h3
    rw [if_pos h1, if_neg (fun hh => h hh.2)] at hq; subst hq; (refine rqK rfl ?_; (repeat' first | exact rfl | (refine qS ?_; constructor)))
  · rename_i h1 h2 h3
    rw [if_pos h1, if_pos ⟨⟨h2, h3⟩, h⟩] at hq
    clear h h1 h2 h3
    (repeat' first | (refine Owe.same ?_; first | refine Owe.o ?_ | refine Owe.mk ?_ ?_) | (refine Fork.same ?_; (first | refine fkD ?_ ?_ | refine fkN ?_ ?_ | refine fkM ?_ ?_) <;> intro h) | refine MvQ.stay ?_)
    refine Sat.lp0 (fun k : Nat => [(6, vi .i64 k), (2, .c (.rp (siD s))), (3, .c (.rp (stD t)))]) (fun k => k ≤ t.d.length ∧ ∀ i, i < k → ascN t.d s.tk.length i = 0) (fun k => t.d.length - k) 0 ⟨Nat.zero_le _, fun i hi => by omega⟩ (by ((first | refine qen ?_ | refine qvs ?_ | refine qeq ?_ | refine qst ?_ | refine qv ?_ | refine qc ?_ | refine qe ?_ | refine qcs ?_ | skip); (repeat' first | exact rfl | (refine qS ?_; constructor)))) ?_
    intro k hk
    refine Fork.dec (fun hlt => ?_) (fun hlt => ?_)
    · have hlt : k < t.d.length := by omega
      have hr : ∀ {e}, ascN t.d s.tk.length k = e → ¬ e = 0 → q = ((k : Int), e) := fun he h2 => by
        rw [hq, ascE, eachN_e hlt hk.2 (by rw [he]; exact h2), he]
      have c1 := C67 (s := s) (n := t.d.getD k 0) htk
      (repeat' first | (refine Owe.same ?_; first | refine Owe.o ?_ | refine Owe.mk ?_ ?_) | (refine Fork.same ?_; (first | refine fkD ?_ ?_ | refine fkN ?_ ?_ | refine fkM ?_ ?_) <;> intro h) | ((first | refine OpsL.same ?_ | refine OpsDL.same ?_); first | refine pK c1 rfl rfl ?_) | refine MvQ.stay ?_)
      · have hx := hr (ascN_6 h) (by decide)
        subst hx
        (refine rqK rfl ?_; (repeat' first | exact rfl | (refine qS ?_; constructor)))
      · have hx := hr (ascN_9 ‹_› (by omega) (by rw [show k - 1 = ((k : Int) - 1).toNat by omega]; exact h)) (by decide)
        subst hx
        (refine rqK rfl ?_; (repeat' first | exact rfl | (refine qS ?_; constructor)))
      · have h0 := ascN_0 (l := t.d) (b := s.tk.length) (j := k) ‹_› (fun _ => by
          have h : ¬ t.d.getD k 0 ≤ t.d.getD ((k : Int) - 1).toNat 0 := h
          rw [show k - 1 = ((k : Int) - 1).toNat by omega]; omega)
        exact again0 (k + 1) ⟨hlt, succ_all hk.2 h0⟩ (by omega) (by ((first | refine qen ?_ | refine qvs ?_ | refine qeq ?_ | refine qst ?_ | refine qv ?_ | refine qc ?_ | refine qe ?_ | refine qcs ?_ | skip); (repeat' first | exact rfl | (refine qS ?_; constructor))))
      · have h0 := ascN_0 (l := t.d) (b := s.tk.length) (j := k) ‹_› (fun hh => by omega)
        exact again0 (k + 1) ⟨hlt, succ_all hk.2 h0⟩ (by omega) (by ((first | refine qen ?_ | refine qvs ?_ | refine qeq ?_ | refine qst ?_ | refine qv ?_ | refine qc ?_ | refine qe ?_ | refine qcs ?_ | skip); (repeat' first | exact rfl | (refine qS ?_; constructor))))
    · have : k = t.d.length := by omega
      subst this
      rw [ascE, eachN_z hk.2] at hq
      subst hq
      (repeat' first | (refine Owe.same ?_; first | refine Owe.o ?_ | refine Owe.mk ?_ ?_) | (refine Fork.same ?_; (first | refine fkD ?_ ?_ | refine fkN ?_ ?_ | refine fkM ?_ ?_) <;> intro h) | refine MvQ.stay ?_)
      (refine rqK rfl ?_; (repeat' first | exact rfl | (refine qS ?_; constructor)))
theorem C68 {s : Si} : SiSm s → PFD Try.prog 68 [siv s] (vi .i64 (siE s).2) := fun hs => by
  have c1 := C16 hs
  refine pi1 fn68 ?_
  (repeat' first | (refine Owe.same ?_; first | refine Owe.o ?_ | refine Owe.mk ?_ ?_) | (refine Fork.same ?_; (first | refine fkD ?_ ?_ | refine fkN ?_ ?_ | refine fkM ?_ ?_) <;> intro h) | ((first | refine OpsL.same ?_ | refine OpsDL.same ?_); first | refine pK c1 rfl rfl ?_) | refine MvQ.stay ?_)
  (refine rqK rfl ?_; (repeat' first | exact rfl | (refine qS ?_; constructor)))
theorem C69 {s : Si} {t : St8} : (SiSm s ∧ t.d.length ≤ 1000000) → PFD Try.prog 69 [siv s, stv t] (vi .i64 (rsE s t).2) := fun hs => by
  have c1 := C17 hs
  refine pi1 fn69 ?_
  (repeat' first | (refine Owe.same ?_; first | refine Owe.o ?_ | refine Owe.mk ?_ ?_) | (refine Fork.same ?_; (first | refine fkD ?_ ?_ | refine fkN ?_ ?_ | refine fkM ?_ ?_) <;> intro h) | ((first | refine OpsL.same ?_ | refine OpsDL.same ?_); first | refine pK c1 rfl rfl ?_) | refine MvQ.stay ?_)
  (refine rqK rfl ?_; (repeat' first | exact rfl | (refine qS ?_; constructor)))
theorem onE_of {s : Si} {t : St8} (h : ¬ (siE s).2 = 0) : onE s t = (siE s).2 := by rw [onE, fstE, if_neg h]
theorem onE_eq {s : Si} {t : St8} (h : (siE s).2 = 0) : onE s t = (rsE s t).2 := by
  rw [onE, fstE, if_pos h, fstE, rsE_eq h]
  split
  · rename_i h; rw [h]; rfl
  · rfl
theorem C18 {s : Si} {t : St8} : (SiSm s ∧ t.d.length ≤ 1000000) → PFD Try.prog 18 [siv s, stv t] (vi .i64 (onE s t)) := fun hs => by
  have c1 := C68 hs.1
  have c2 := C69 hs
  obtain ⟨q, hq⟩ : ∃ q, q = onE s t := ⟨_, rfl⟩
  rw [← hq]
  refine pi1 fn18 ?_
  (repeat' first | (refine Owe.same ?_; first | refine Owe.o ?_ | refine Owe.mk ?_ ?_) | (refine Fork.same ?_; (first | refine fkD ?_ ?_ | refine fkN ?_ ?_ | refine fkM ?_ ?_) <;> intro h) | ((first | refine OpsL.same ?_ | refine OpsDL.same ?_); first | refine pK c1 rfl rfl ?_ | refine pK c2 rfl rfl ?_) | refine MvQ.stay ?_)
  · rw [onE_of h] at hq; subst hq; (refine rqK rfl ?_; (repeat' first | exact rfl | (refine qS ?_; constructor)))
  · rw [onE_eq h] at hq; subst hq; (refine rqK rfl ?_; (repeat' first | exact rfl | (refine qS ?_; constructor)))
/-- Equal states. -/
abbrev sameB (a b : St8) : Bool := decide (a.p = b.p ∧ a.t = b.t ∧ a.w = b.w ∧ a.o = b.o ∧ a.d = b.d)
theorem C40 {a b : St8} : a.d.length < 4611686018427387904 → PFD Try.prog 40 [stv a, stv b] (vbl (sameB a b)) := fun h => by
  have c1 := C46 (l := a.d) (m := b.d) h
  refine pi1 fn40 ?_
  (repeat' first | (refine Owe.same ?_; first | refine Owe.o ?_ | refine Owe.mk ?_ ?_) | (refine Fork.same ?_; (first | refine fkD ?_ ?_ | refine fkN ?_ ?_ | refine fkM ?_ ?_) <;> intro h) | ((first | refine OpsL.same ?_ | refine OpsDL.same ?_); first | refine pK c1 rfl rfl ?_) | refine MvQ.stay ?_)
  all_goals ((refine rqK rfl ?_; (repeat' first | exact rfl | (refine qS ?_; constructor))); simp only [sameB, decide_eq_decide, decide_eq_false_iff_not, decide_eq_true_eq]; simp_all)
end Go.Pw

set_option linter.unusedSimpArgs false
set_option linter.unusedVariables false
set_option maxHeartbeats 4000000
namespace Go.Pw
set_option maxRecDepth 2000
open Go Go.Proofs A1 A2 A3 A4
theorem DI.take {l : List Int} {k : Nat} {f : Nat → List D} (hk : k ≤ l.length) (hf : ∀ i, i < k → f i = r1 (l.getD i 0)) : DI (.sl 1 k f) (intsD (l.take k)) := by
  have e : (l.take k).length = k := by rw [List.length_take]; omega
  show DI _ (.sl 1 (l.take k).length _)
  rw [e]
  refine DI.sl fun i hi => ?_
  have e2 : (l.take k).getD i 0 = l.getD i 0 := by simp only [List.getD_eq_getElem?_getD, List.getElem?_take, hi, if_true]
  rw [hf i hi, e2]
  exact DIs.refl _
theorem DI.drop {l : List Int} {k m : Nat} {f : Nat → List D} (hm : m = l.length - k) (hf : ∀ i, i < m → f i = r1 (l.getD (k + i) 0)) : DI (.sl 1 m f) (intsD (l.drop k)) := by
  subst hm
  show DI _ (.sl 1 (l.drop k).length _)
  rw [List.length_drop]
  refine DI.sl fun i hi => ?_
  have e2 : (l.drop k).getD i 0 = l.getD (k + i) 0 := by simp only [List.getD_eq_getElem?_getD, List.getElem?_drop]
  rw [hf i hi, e2]
  exact DIs.refl _
/-- The error of numbers of tasks. -/
abbrev nuN (s : Si) (l : List Int) (i : Nat) : Int := fstE [unl (0 ≤ l.getD i 0 ∧ l.getD i 0 ≤ (s.tk.length : Int) - 1) 6, unb (!decide (l.getD i 0 ∈ l.take i)) 23]
def nuE (s : Si) (l : List Int) : Int := (eachN (nuN s l) 0 l.length).2
theorem nuE_ok {s : Si} {l : List Int} : nuE s l = 0 ↔ tkNs s l ∧ l.Nodup := by
  rw [nuE, eachN_ok]
  constructor
  · intro h
    have h1 : ∀ i, i < l.length → (0 ≤ l.getD i 0 ∧ l.getD i 0 ≤ (s.tk.length : Int) - 1) ∧ l.getD i 0 ∉ l.take i := fun i hi => by
      have := h i hi
      rw [nuN, fst2, unl0 (by decide), unb_ok (by decide)] at this
      exact ⟨this.1, by simpa using this.2⟩
    refine ⟨fun i hi => by have := (h1 i hi).1; omega, ?_⟩
    rw [List.nodup_iff_pairwise_ne, List.pairwise_iff_getElem]
    intro i j hi hj hij e
    refine (h1 j hj).2 ?_
    rw [List.getD_eq_getElem?_getD, List.getElem?_eq_getElem hj]
    show l[j] ∈ _
    rw [← e]
    have h2 : (l.take j)[i]? = some l[i] := by rw [List.getElem?_take, if_pos hij, List.getElem?_eq_getElem hi]
    exact List.mem_of_getElem? h2
  · rintro ⟨h1, h2⟩ i hi
    rw [nuN, fst2, unl0 (by decide), unb_ok (by decide)]
    refine ⟨by have := h1 i hi; omega, ?_⟩
    rw [Bool.not_eq_true', decide_eq_false_iff_not]
    intro hm
    obtain ⟨j, hj, e⟩ := List.getElem_of_mem hm
    rw [List.length_take] at hj
    rw [List.getElem_take, List.getD_eq_getElem?_getD, List.getElem?_eq_getElem hi] at e
    rw [List.nodup_iff_pairwise_ne, List.pairwise_iff_getElem] at h2
    exact h2 j i (by omega) hi (by omega) e
/-- Some number is done. -/
abbrev dnB (t : St8) (l : List Int) : Bool := l.any fun n => decide (n ∈ t.d)
theorem SetOk.of {s : Si} {t : St8} {l : List Int} (h : nuE s l = 0) (h1 : dnB t l = false) : SetOk s t l where
  n := (nuE_ok.1 h).1
  u := (nuE_ok.1 h).2
  d := fun x hx => by have := List.any_eq_false.1 h1 x hx; simpa using this
abbrev tgB (s : Si) (t : St8) (l : List Int) : Bool := togB s l.length t l
end Go.Pw

set_option linter.unusedSimpArgs false
set_option linter.unusedVariables false
set_option maxHeartbeats 4000000
namespace Go.Pw
set_option maxRecDepth 2000
open Go Go.Proofs A1 A2 A3 A4
theorem bit_i64 {b i : Nat} (hb : b < 2 ^ 62) (hi : i < 64) : decide (IntKind.i64.wrap ((BitVec.ofInt IntKind.i64.bits ((b : Int).fdiv (2 ^ min (Int.toNat (i : Int)) IntKind.i64.bits)) &&& BitVec.ofInt IntKind.i64.bits 1).toNat : Nat) = 1) = b.testBit i := by
  have hbits : IntKind.i64.bits = 64 := rfl
  have e1 : (b : Int).fdiv (2 ^ min (Int.toNat (i : Int)) IntKind.i64.bits) = ((b / 2 ^ i : Nat) : Int) := by
    rw [hbits, Int.toNat_natCast, Nat.min_eq_left (by omega), Int.fdiv_eq_ediv_of_nonneg _ (Int.pow_nonneg (by decide))]
    norm_cast
  rw [e1, Nat.testBit_eq_decide_div_mod_eq]
  have hlt : b / 2 ^ i < 2 ^ 62 := by
    have := Nat.div_le_self b (2 ^ i)
    omega
  generalize b / 2 ^ i = q at hlt ⊢
  have e2 : (BitVec.ofInt IntKind.i64.bits (q : Int) &&& BitVec.ofInt IntKind.i64.bits 1).toNat = q % 2 := by
    rw [BitVec.toNat_and]
    have f1 : (BitVec.ofInt IntKind.i64.bits (q : Int)).toNat = q := by
      rw [BitVec.toNat_ofInt, hbits]; omega
    have f2 : (BitVec.ofInt IntKind.i64.bits 1).toNat = 1 := rfl
    rw [f1, f2, Nat.and_one_is_mod]
  rw [e2]
  have e3 : IntKind.i64.wrap ((q % 2 : Nat) : Int) = ((q % 2 : Nat) : Int) := by
    rcases (show q % 2 = 0 ∨ q % 2 = 1 by omega) with h | h <;> rw [h] <;> rfl
  rw [e3, Bool.eq_iff_iff, decide_eq_true_eq, decide_eq_true_eq]
  omega
theorem shl_i64 {n : Nat} (h : n ≤ 20) : IntKind.i64.wrap (1 * 2 ^ min (Int.toNat (n : Int)) IntKind.i64.bits) = ((2 ^ n : Nat) : Int) := by
  have : n = 0 ∨ n = 1 ∨ n = 2 ∨ n = 3 ∨ n = 4 ∨ n = 5 ∨ n = 6 ∨ n = 7 ∨ n = 8 ∨ n = 9 ∨ n = 10 ∨ n = 11 ∨ n = 12 ∨ n = 13 ∨ n = 14 ∨ n = 15 ∨ n = 16 ∨ n = 17 ∨ n = 18 ∨ n = 19 ∨ n = 20 := by omega
  rcases this with h | h | h | h | h | h | h | h | h | h | h | h | h | h | h | h | h | h | h | h | h <;> subst h <;> decide
theorem fltL_asc {p : Nat → Bool} {n : Nat} : (fltL p n).Pairwise (· < ·) := by
  rw [fltL, List.pairwise_map]
  refine List.Pairwise.filter _ ?_
  exact List.pairwise_lt_range.imp fun h => Int.ofNat_lt.2 h
/-- The numbers of a set, as bits say. -/
abbrev subL (n b : Nat) : List Int := fltL (fun i => b.testBit i) n
theorem subL_mem {n b : Nat} {x : Int} (h : x ∈ subL n b) : 0 ≤ x ∧ x < n := by
  simp only [subL, fltL, List.mem_map, List.mem_filter, List.mem_range] at h
  obtain ⟨i, ⟨h1, _⟩, rfl⟩ := h
  omega
theorem subL_nd {n b : Nat} : (subL n b).Nodup := by
  rw [List.nodup_iff_pairwise_ne]
  exact fltL_asc.imp fun h => by omega
/-- The slice of the best one, or none. -/
abbrev nilO : Option (List Int) → V
  | none => .c (.d (.v (.slice none 0 0)))
  | some l => .c (ints l)
abbrev smO (o : Option (List Int)) (l : List Int) : Bool := match o with
  | none => true
  | some m => decide (fstE [cmpI l.length m.length, cmpL l m] < 0)
/-- A set of tasks that do not go together. -/
abbrev clB (s : Si) (t : St8) (l : List Int) : Bool := !dnB t l && !tgB s t l
def clK (s : Si) (t : St8) (n : Nat) : Nat → Option (List Int)
  | 0 => none
  | b + 1 => if smO (clK s t n b) (subL n b) = true ∧ clB s t (subL n b) = true then some (subL n b) else clK s t n b
abbrev clO (s : Si) (t : St8) : Option (List Int) := clK s t s.tk.length (2 ^ s.tk.length)
def clE (s : Si) (t : St8) : List Int × Int := if onE s t = 0 then (match clO s t with | none => ([], 12) | some l => (l, 0)) else ([], onE s t)
theorem SetOk.sub {s : Si} {t : St8} {b : Nat} (h : dnB t (subL s.tk.length b) = false) : SetOk s t (subL s.tk.length b) where
  n := fun i hi => subL_mem (getD_mem 0 hi)
  u := subL_nd
  d := fun x hx => by have := List.any_eq_false.1 h x hx; simpa using this
theorem clK_len {s : Si} {t : St8} {n : Nat} : ∀ {b : Nat} {l : List Int}, clK s t n b = some l → l.length ≤ n ∧ 0 < l.length
  | 0, l, h => by cases h
  | b + 1, l, h => by
    rw [clK] at h
    split at h
    · rename_i hh
      cases h
      refine ⟨fltL_len _ _, ?_⟩
      rcases Nat.eq_zero_or_pos (subL n b).length with h0 | h0
      · have e := List.eq_nil_of_length_eq_zero h0
        rw [e] at hh
        have := hh.2
        simp [clB, tgB, togB] at this
      · exact h0
    · exact clK_len h
theorem C27 {s : Si} {t : St8} : (SiSm s ∧ t.d.length ≤ 1000000) → PFD Try.prog 27 [siv s, stv t] (.tup [.c (ints (clE s t).1), vi .i64 (clE s t).2]) := fun ⟨hs, ht⟩ => by
  have c1 := C70 (s := s) (t := t) ⟨hs, ht⟩
  obtain ⟨q, hq⟩ : ∃ q, q = clE s t := ⟨_, rfl⟩
  rw [← hq]
  rw [clE] at hq
  by_cases h0 : onE s t = 0
  · rw [if_pos h0, clO] at hq
    rw [h0] at c1
    have hO := OnOk.of h0
    have hn := hO.ok.n
    have hshl := shl_i64 (n := s.tk.length) (by omega)
    have hpow : 2 ^ s.tk.length ≤ 2 ^ 6 := Nat.pow_le_pow_right (by decide) hn
    have hpos : 1 ≤ 2 ^ s.tk.length := Nat.one_le_two_pow
    obtain ⟨N, hN⟩ : ∃ N, N = 2 ^ s.tk.length := ⟨_, rfl⟩
    rw [← hN] at hshl hpow hq hpos
    have hst : none = clK s t s.tk.length 1 := by
      have e : subL s.tk.length 0 = [] := by
        rw [subL, fltL, List.map_eq_nil_iff, List.filter_eq_nil_iff]; simp
      rw [clK, clK, e, if_neg]
      rintro ⟨_, h⟩
      simp [clB, tgB, togB] at h
    refine pi2 fn27 ?_
    (repeat' first | (refine Owe.same ?_; first | refine Owe.o ?_ | refine Owe.mk ?_ ?_) | (refine Fork.same ?_; (first | refine fkY ?_ | refine fkF ?_ | ((first | refine fkD ?_ ?_ | refine fkN ?_ ?_ | refine fkM ?_ ?_) <;> intro h))) | ((first | refine OpsL.same ?_ | refine OpsDL.same ?_); first | refine oK c1 rfl rfl rfl ?_) | refine MvQ.stay ?_)
    (repeat' first | (refine Owe.same ?_; first | refine Owe.o ?_ | refine Owe.mk ?_ ?_) | (refine Fork.same ?_; (first | refine fkD ?_ ?_ | refine fkN ?_ ?_ | refine fkM ?_ ?_) <;> intro h) | refine MvQ.stay ?_)
    refine Sat.lp (fun ((b, o) : Nat × Option (List Int)) => ⟨[(9, vi .i64 b), (8, nilO o), (2, .c (.rp (siD s))), (6, .c (.bp 0 0))], [(0, .box (diC s t))], 1⟩) (fun ((b, o) : Nat × Option (List Int)) => b ≤ N ∧ o = clK s t s.tk.length b) (fun ((b, _) : Nat × Option (List Int)) => N - b) (1, none) [0] ⟨hpos, hst⟩ ?_ ?_
    · (refine qis ?_ ?_ <;> (repeat' first | exact rfl | (refine qS ?_; constructor)))
    · intro ⟨b, o⟩ ⟨hb, ho⟩
      rcases o with _ | m
      · rcases Nat.lt_or_eq_of_le hb with hbl | rfl
        rotate_left
        · rw [← ho] at hq
          (repeat' first | (refine Owe.same ?_; first | refine Owe.o ?_ | refine Owe.mk ?_ ?_) | (refine Fork.same ?_; (first | refine fkY ?_ | refine fkF ?_ | ((first | refine fkD ?_ ?_ | refine fkN ?_ ?_ | refine fkM ?_ ?_) <;> intro h))) | ((first | refine OpsL.same ?_ | refine OpsDL.same ?_); first | refine oK C50 rfl rfl rfl ?_) | refine MvQ.stay ?_)
          subst hq
          (refine rqK rfl ?_; (repeat' first | exact rfl | (refine qS ?_; constructor)))
        · (repeat' first | (refine Owe.same ?_; first | refine Owe.o ?_ | refine Owe.mk ?_ ?_) | (refine Fork.same ?_; (first | refine fkD ?_ ?_ | refine fkN ?_ ?_ | refine fkM ?_ ?_) <;> intro h) | refine MvQ.stay ?_)
          rotate_left
          · rw [hshl] at h; omega
          · refine Sat.nilS 10 3 1 (fun i => r1 (([] : List Int).getD i 0)) rfl ?_
            refine Sat.lp (fun i : Nat => ⟨[(33, vi .i64 i), (32, vi .i64 s.tk.length), (10, .c (.ms 1 (fltL (fun i => b.testBit i) i).length)), (9, vi .i64 b), (8, nilO none), (2, .c (.rp (siD s))), (6, .c (.bp 0 0))], [(1, rowv 3 1 r1 0 (fltL (fun i => b.testBit i) i)), (0, .box (diC s t))], 2⟩)
              (fun i => i ≤ s.tk.length) (fun i => s.tk.length - i) 0 [0, 1] (Nat.zero_le _) ?_ ?_
            · (refine qis ?_ ?_ <;> (repeat' first | exact rfl | (refine qS ?_; constructor)))
            · intro i hi
              have hfl := fltL_len (fun i => b.testBit i) i
              have hfs := fltL_succ (fun i => b.testBit i) i
              refine Fork.dec (fun hli => ?_) (fun hli => ?_)
              · have hli : i < s.tk.length := by omega
                have htb := bit_i64 (b := b) (i := i) (by omega) (by omega)
                (repeat' first | (refine Owe.same ?_; first | refine Owe.o ?_ | refine Owe.mk ?_ ?_) | (refine Fork.same ?_; (first | refine fkD ?_ ?_ | refine fkN ?_ ?_ | refine fkM ?_ ?_) <;> intro h) | refine MvQ.stay ?_)
                · have h : decide _ = true := decide_eq_true h
                  rw [htb] at h
                  rw [if_pos h] at hfs
                  refine again (i + 1) [0, 2] hli (by omega) ?_
                  (refine qis ?_ ?_ <;> (repeat' first | exact rfl | (refine qS ?_; constructor)))
                  · rw [hfs]; simp
                  · exact hfs
                · have h : decide _ = false := decide_eq_false h
                  rw [htb] at h
                  rw [if_neg (by rw [h]; decide)] at hfs
                  refine again (i + 1) [0, 1] hli (by omega) ?_
                  (refine qis ?_ ?_ <;> (repeat' first | exact rfl | (refine qS ?_; constructor)))
                  · rw [hfs]
                  · rw [hfs]
              · have : i = s.tk.length := by omega
                subst this
                have hsl : (subL s.tk.length b).length ≤ s.tk.length := hfl
                have c3 := C53b (g := 79) (ds := diD s t) (l := subL s.tk.length b) (f := fun i => decide ((subL s.tk.length b).getD i 0 ∈ t.d)) (fun i hi => C79 ht) (by omega)
                rw [anyN_mem (p := fun n => decide (n ∈ t.d))] at c3
                change PFD Try.prog 53 _ (vbl (dnB t (subL s.tk.length b))) at c3
                have c4 := fun hd => C80 hs.t (subL s.tk.length b).length hO (SetOk.sub (b := b) hd) (Nat.le_refl _)
                change dnB t (subL s.tk.length b) = false → PFD Try.prog 80 _ (vbl (tgB s t (subL s.tk.length b))) at c4
                have hnx : clK s t s.tk.length (b + 1) = if smO (clK s t s.tk.length b) (subL s.tk.length b) = true ∧ clB s t (subL s.tk.length b) = true then some (subL s.tk.length b) else clK s t s.tk.length b := rfl
                rw [← ho] at hnx
                (repeat' first | (refine Owe.same ?_; first | refine Owe.o ?_ | refine Owe.mk ?_ ?_) | (refine Fork.same ?_; (first | refine fkD ?_ ?_ | refine fkN ?_ ?_ | refine fkM ?_ ?_) <;> intro h) | refine MvQ.stay ?_)
                refine OpsL.frz 10 _ rfl rfl (Nat.le_refl _) ?_
                refine OpsL.frz 63 _ rfl rfl (Nat.le_refl _) ?_
                rcases hd : dnB t (subL s.tk.length b) with _ | _
                · rw [hd] at c3
                  have c4 := c4 hd
                  rw [clB, hd] at hnx
                  rcases hg : tgB s t (subL s.tk.length b) with _ | _
                  · rw [hg] at c4 hnx
                    rw [if_pos ⟨rfl, rfl⟩] at hnx
                    (repeat' first | (refine Owe.same ?_; first | refine Owe.o ?_ | refine Owe.mk ?_ ?_) | (refine Fork.same ?_; (first | refine fkY ?_ | refine fkF ?_ | ((first | refine fkD ?_ ?_ | refine fkN ?_ ?_ | refine fkM ?_ ?_) <;> intro h))) | ((first | refine OpsL.same ?_ | refine OpsDL.same ?_); first | refine oK c3 rfl rfl rfl ?_) | refine MvQ.stay ?_)
                    (repeat' first | (refine Owe.same ?_; first | refine Owe.o ?_ | refine Owe.mk ?_ ?_) | (refine Fork.same ?_; (first | refine fkY ?_ | refine fkF ?_ | ((first | refine fkD ?_ ?_ | refine fkN ?_ ?_ | refine fkM ?_ ?_) <;> intro h))) | ((first | refine OpsL.same ?_ | refine OpsDL.same ?_); first | refine oK c4 rfl rfl rfl ?_) | refine MvQ.stay ?_)
                    refine again (b + 1, some (subL s.tk.length b)) [0] ⟨hbl, hnx.symm⟩ (by show N - (b + 1) < N - b; omega) ?_
                    (refine qis ?_ ?_ <;> (repeat' first | exact rfl | (refine qS ?_; constructor)))
                  · rw [hg] at c4 hnx
                    rw [if_neg (by simp)] at hnx
                    (repeat' first | (refine Owe.same ?_; first | refine Owe.o ?_ | refine Owe.mk ?_ ?_) | (refine Fork.same ?_; (first | refine fkY ?_ | refine fkF ?_ | ((first | refine fkD ?_ ?_ | refine fkN ?_ ?_ | refine fkM ?_ ?_) <;> intro h))) | ((first | refine OpsL.same ?_ | refine OpsDL.same ?_); first | refine oK c3 rfl rfl rfl ?_) | refine MvQ.stay ?_)
                    (repeat' first | (refine Owe.same ?_; first | refine Owe.o ?_ | refine Owe.mk ?_ ?_) | (refine Fork.same ?_; (first | refine fkY ?_ | refine fkF ?_ | ((first | refine fkD ?_ ?_ | refine fkN ?_ ?_ | refine fkM ?_ ?_) <;> intro h))) | ((first | refine OpsL.same ?_ | refine OpsDL.same ?_); first | refine oK c4 rfl rfl rfl ?_) | refine MvQ.stay ?_)
                    refine again (b + 1, none) [0] ⟨hbl, hnx.symm⟩ (by show N - (b + 1) < N - b; omega) ?_
                    (refine qis ?_ ?_ <;> (repeat' first | exact rfl | (refine qS ?_; constructor)))
                · rw [hd] at c3
                  rw [clB, hd, if_neg (by simp)] at hnx
                  (repeat' first | (refine Owe.same ?_; first | refine Owe.o ?_ | refine Owe.mk ?_ ?_) | (refine Fork.same ?_; (first | refine fkY ?_ | refine fkF ?_ | ((first | refine fkD ?_ ?_ | refine fkN ?_ ?_ | refine fkM ?_ ?_) <;> intro h))) | ((first | refine OpsL.same ?_ | refine OpsDL.same ?_); first | refine oK c3 rfl rfl rfl ?_) | refine MvQ.stay ?_)
                  refine again (b + 1, none) [0] ⟨hbl, hnx.symm⟩ (by show N - (b + 1) < N - b; omega) ?_
                  (refine qis ?_ ?_ <;> (repeat' first | exact rfl | (refine qS ?_; constructor)))
      · rcases Nat.lt_or_eq_of_le hb with hbl | rfl
        rotate_left
        · rw [← ho] at hq
          have hm := clK_len ho.symm
          (repeat' first | (refine Owe.same ?_; first | refine Owe.o ?_ | refine Owe.mk ?_ ?_) | (refine Fork.same ?_; (first | refine fkY ?_ | refine fkF ?_ | ((first | refine fkD ?_ ?_ | refine fkN ?_ ?_ | refine fkM ?_ ?_) <;> intro h))) | ((first | refine OpsL.same ?_ | refine OpsDL.same ?_); first | refine oK C50 rfl rfl rfl ?_) | refine MvQ.stay ?_)
          subst hq
          (refine rqK rfl ?_; (repeat' first | exact rfl | (refine qS ?_; constructor)))
        · (repeat' first | (refine Owe.same ?_; first | refine Owe.o ?_ | refine Owe.mk ?_ ?_) | (refine Fork.same ?_; (first | refine fkD ?_ ?_ | refine fkN ?_ ?_ | refine fkM ?_ ?_) <;> intro h) | refine MvQ.stay ?_)
          rotate_left
          · rw [hshl] at h; omega
          · refine Sat.nilS 10 3 1 (fun i => r1 (([] : List Int).getD i 0)) rfl ?_
            refine Sat.lp (fun i : Nat => ⟨[(33, vi .i64 i), (32, vi .i64 s.tk.length), (10, .c (.ms 1 (fltL (fun i => b.testBit i) i).length)), (9, vi .i64 b), (8, nilO (some m)), (2, .c (.rp (siD s))), (6, .c (.bp 0 0))], [(1, rowv 3 1 r1 0 (fltL (fun i => b.testBit i) i)), (0, .box (diC s t))], 2⟩)
              (fun i => i ≤ s.tk.length) (fun i => s.tk.length - i) 0 [0, 1] (Nat.zero_le _) ?_ ?_
            · (refine qis ?_ ?_ <;> (repeat' first | exact rfl | (refine qS ?_; constructor)))
            · intro i hi
              have hfl := fltL_len (fun i => b.testBit i) i
              have hfs := fltL_succ (fun i => b.testBit i) i
              refine Fork.dec (fun hli => ?_) (fun hli => ?_)
              · have hli : i < s.tk.length := by omega
                have htb := bit_i64 (b := b) (i := i) (by omega) (by omega)
                (repeat' first | (refine Owe.same ?_; first | refine Owe.o ?_ | refine Owe.mk ?_ ?_) | (refine Fork.same ?_; (first | refine fkD ?_ ?_ | refine fkN ?_ ?_ | refine fkM ?_ ?_) <;> intro h) | refine MvQ.stay ?_)
                · have h : decide _ = true := decide_eq_true h
                  rw [htb] at h
                  rw [if_pos h] at hfs
                  refine again (i + 1) [0, 2] hli (by omega) ?_
                  (refine qis ?_ ?_ <;> (repeat' first | exact rfl | (refine qS ?_; constructor)))
                  · rw [hfs]; simp
                  · exact hfs
                · have h : decide _ = false := decide_eq_false h
                  rw [htb] at h
                  rw [if_neg (by rw [h]; decide)] at hfs
                  refine again (i + 1) [0, 1] hli (by omega) ?_
                  (refine qis ?_ ?_ <;> (repeat' first | exact rfl | (refine qS ?_; constructor)))
                  · rw [hfs]
                  · rw [hfs]
              · have : i = s.tk.length := by omega
                subst this
                have hsl : (subL s.tk.length b).length ≤ s.tk.length := hfl
                have c3 := C53b (g := 79) (ds := diD s t) (l := subL s.tk.length b) (f := fun i => decide ((subL s.tk.length b).getD i 0 ∈ t.d)) (fun i hi => C79 ht) (by omega)
                rw [anyN_mem (p := fun n => decide (n ∈ t.d))] at c3
                change PFD Try.prog 53 _ (vbl (dnB t (subL s.tk.length b))) at c3
                have c4 := fun hd => C80 hs.t (subL s.tk.length b).length hO (SetOk.sub (b := b) hd) (Nat.le_refl _)
                change dnB t (subL s.tk.length b) = false → PFD Try.prog 80 _ (vbl (tgB s t (subL s.tk.length b))) at c4
                have hnx : clK s t s.tk.length (b + 1) = if smO (clK s t s.tk.length b) (subL s.tk.length b) = true ∧ clB s t (subL s.tk.length b) = true then some (subL s.tk.length b) else clK s t s.tk.length b := rfl
                rw [← ho] at hnx
                have hm := clK_len ho.symm
                have c5 := C78 (l := subL s.tk.length b) (m := m) ⟨by omega, by omega⟩
                (repeat' first | (refine Owe.same ?_; first | refine Owe.o ?_ | refine Owe.mk ?_ ?_) | (refine Fork.same ?_; (first | refine fkD ?_ ?_ | refine fkN ?_ ?_ | refine fkM ?_ ?_) <;> intro h) | refine MvQ.stay ?_)
                refine OpsL.frz 10 _ rfl rfl (Nat.le_refl _) ?_
                (repeat' first | (refine Owe.same ?_; first | refine Owe.o ?_ | refine Owe.mk ?_ ?_) | (refine Fork.same ?_; (first | refine fkY ?_ | refine fkF ?_ | ((first | refine fkD ?_ ?_ | refine fkN ?_ ?_ | refine fkM ?_ ?_) <;> intro h))) | ((first | refine OpsL.same ?_ | refine OpsDL.same ?_); first | refine pK C77 rfl rfl ?_ | refine pK c5 rfl rfl ?_ | refine pK C76 rfl rfl ?_) | refine MvQ.stay ?_)
                · have hs1 : smO (some m) (subL s.tk.length b) = true := decide_eq_true h
                  rw [hs1] at hnx
                  rcases hd : dnB t (subL s.tk.length b) with _ | _
                  · rw [hd] at c3
                    have c4 := c4 hd
                    rw [clB, hd] at hnx
                    rcases hg : tgB s t (subL s.tk.length b) with _ | _
                    · rw [hg] at c4 hnx
                      rw [if_pos ⟨rfl, rfl⟩] at hnx
                      (repeat' first | (refine Owe.same ?_; first | refine Owe.o ?_ | refine Owe.mk ?_ ?_) | (refine Fork.same ?_; (first | refine fkY ?_ | refine fkF ?_ | ((first | refine fkD ?_ ?_ | refine fkN ?_ ?_ | refine fkM ?_ ?_) <;> intro h))) | ((first | refine OpsL.same ?_ | refine OpsDL.same ?_); first | refine oK c3 rfl rfl rfl ?_ | refine oK c4 rfl rfl rfl ?_) | refine MvQ.stay ?_)
                      refine again (b + 1, some (subL s.tk.length b)) [0] ⟨hbl, hnx.symm⟩ (by show N - (b + 1) < N - b; omega) ?_
                      (refine qis ?_ ?_ <;> (repeat' first | exact rfl | (refine qS ?_; constructor)))
                    · rw [hg] at c4 hnx
                      rw [if_neg (by simp)] at hnx
                      (repeat' first | (refine Owe.same ?_; first | refine Owe.o ?_ | refine Owe.mk ?_ ?_) | (refine Fork.same ?_; (first | refine fkY ?_ | refine fkF ?_ | ((first | refine fkD ?_ ?_ | refine fkN ?_ ?_ | refine fkM ?_ ?_) <;> intro h))) | ((first | refine OpsL.same ?_ | refine OpsDL.same ?_); first | refine oK c3 rfl rfl rfl ?_ | refine oK c4 rfl rfl rfl ?_) | refine MvQ.stay ?_)
                      refine again (b + 1, some m) [0] ⟨hbl, hnx.symm⟩ (by show N - (b + 1) < N - b; omega) ?_
                      (refine qis ?_ ?_ <;> (repeat' first | exact rfl | (refine qS ?_; constructor)))
                  · rw [hd] at c3
                    rw [clB, hd, if_neg (by simp)] at hnx
                    (repeat' first | (refine Owe.same ?_; first | refine Owe.o ?_ | refine Owe.mk ?_ ?_) | (refine Fork.same ?_; (first | refine fkY ?_ | refine fkF ?_ | ((first | refine fkD ?_ ?_ | refine fkN ?_ ?_ | refine fkM ?_ ?_) <;> intro h))) | ((first | refine OpsL.same ?_ | refine OpsDL.same ?_); first | refine oK c3 rfl rfl rfl ?_) | refine MvQ.stay ?_)
                    refine again (b + 1, some m) [0] ⟨hbl, hnx.symm⟩ (by show N - (b + 1) < N - b; omega) ?_
                    (refine qis ?_ ?_ <;> (repeat' first | exact rfl | (refine qS ?_; constructor)))
                · have hs1 : smO (some m) (subL s.tk.length b) = false := decide_eq_false h
                  rw [hs1, if_neg (by simp)] at hnx
                  refine again (b + 1, some m) [0] ⟨hbl, hnx.symm⟩ (by show N - (b + 1) < N - b; omega) ?_
                  (refine qis ?_ ?_ <;> (repeat' first | exact rfl | (refine qS ?_; constructor)))
  · rw [if_neg h0] at hq
    generalize onE s t = e at *
    subst hq
    refine pi2 fn27 ?_
    (repeat' first | (refine Owe.same ?_; first | refine Owe.o ?_ | refine Owe.mk ?_ ?_) | (refine Fork.same ?_; (first | refine fkY ?_ | refine fkF ?_ | ((first | refine fkD ?_ ?_ | refine fkN ?_ ?_ | refine fkM ?_ ?_) <;> intro h))) | ((first | refine OpsL.same ?_ | refine OpsDL.same ?_); first | refine oK c1 rfl rfl rfl ?_) | refine MvQ.stay ?_)
    (refine rqK rfl ?_; (repeat' first | exact rfl | (refine qS ?_; constructor)))
end Go.Pw

set_option linter.unusedSimpArgs false
set_option linter.unusedVariables false
set_option maxHeartbeats 4000000
namespace Go.Pw
set_option maxRecDepth 2000
open Go Go.Proofs A1 A2 A3 A4
abbrev exSi : Si := ⟨[⟨⟨#[118, 97, 108, 118, 101]⟩, 1, 20, 30, 4, 50, 0, 300, []⟩, ⟨⟨#[112, 114, 111, 98, 101]⟩, 2, 10, 10, 1, 30, 80, 90, []⟩, ⟨⟨#[99, 108, 111, 115, 101]⟩, 1, 10, 20, 2, 40, 0, 400, [0]⟩], [[0, 10, 20], [10, 0, 10], [20, 10, 0]], [30, 40, 50], [(100, 199, 5)], 1, 2, 20, 400⟩
abbrev exSt : St8 := ⟨0, 0, 300, 6, []⟩
abbrev exSt1 : St8 := ⟨1, 30, 250, 2, [0]⟩
theorem PFD.res {P : Program} {f : FuncId} {args : List V} {v v' : V} (h : PFD P f args v) (hr : RI v v') : PFD P f args v' :=
  ⟨h.h.1, h.h.2.1, fun Γ w us h1 h2 h3 => (h.h.2.2 Γ w us h1 h2 h3).mono fun e w' ⟨u, Γ', q1, q2, q3⟩ => ⟨u, Γ', q1, hr _ _ _ q2, q3⟩⟩
theorem DI.nil (s : Nat) (f : Nat → List D) : DI (.v (.slice none 0 0)) (.sl s 0 f) := fun I w u h => by
  cases h; exact .slE _ _ _ _
/-- A slice that was written out. -/
abbrev litD (s : Nat) (l : List (List D)) : D := .sl s l.length fun i => l.getD i []
theorem DI.lit {s : Nat} {l : List (List D)} {g : Nat → List D} (h : ∀ i, i < l.length → DIs (l.getD i []) (g i)) : DI (litD s l) (.sl s l.length g) := DI.sl h
abbrev exRaw : List D := [litD 9 [[.v (.string ⟨#[118, 97, 108, 118, 101]⟩), dI 1, dI 20, dI 30, dI 4, dI 50, dI 0, dI 300, .v (.slice none 0 0)], [.v (.string ⟨#[112, 114, 111, 98, 101]⟩), dI 2, dI 10, dI 10, dI 1, dI 30, dI 80, dI 90, .v (.slice none 0 0)], [.v (.string ⟨#[99, 108, 111, 115, 101]⟩), dI 1, dI 10, dI 20, dI 2, dI 40, dI 0, dI 400, litD 1 [[dI 0]]]],
  litD 1 [[litD 1 [[dI 0], [dI 10], [dI 20]]], [litD 1 [[dI 10], [dI 0], [dI 10]]], [litD 1 [[dI 20], [dI 10], [dI 0]]]], litD 1 [[dI 30], [dI 40], [dI 50]], litD 3 [[dI 100, dI 199, dI 5]], dI 1, dI 2, dI 20, dI 400]
theorem DIs.of {ds es : List D} (h : ds = es) : DIs ds es := h ▸ DIs.refl ds
theorem ex3I {a b c : Int} : DI (litD 1 [[dI a], [dI b], [dI c]]) (intsD [a, b, c]) := DI.sl fun i hi => by
  match i, hi with
  | 0, _ => exact DIs.refl _
  | 1, _ => exact DIs.refl _
  | 2, _ => exact DIs.refl _
theorem C43 : PFD Try.prog 43 [] (siv exSi) := by
  refine PFD.res (v := .agg [.d (litD 9 [[.v (.string ⟨#[118, 97, 108, 118, 101]⟩), dI 1, dI 20, dI 30, dI 4, dI 50, dI 0, dI 300, .v (.slice none 0 0)], [.v (.string ⟨#[112, 114, 111, 98, 101]⟩), dI 2, dI 10, dI 10, dI 1, dI 30, dI 80, dI 90, .v (.slice none 0 0)], [.v (.string ⟨#[99, 108, 111, 115, 101]⟩), dI 1, dI 10, dI 20, dI 2, dI 40, dI 0, dI 400, litD 1 [[dI 0]]]]), .d (litD 1 [[litD 1 [[dI 0], [dI 10], [dI 20]]], [litD 1 [[dI 10], [dI 0], [dI 10]]], [litD 1 [[dI 20], [dI 10], [dI 0]]]]), .d (litD 1 [[dI 30], [dI 40], [dI 50]]), .d (litD 3 [[dI 100, dI 199, dI 5]]), .d (dI 1), .d (dI 2), .d (dI 20), .d (dI 400)]) ?_ (RI.aggI (ds := exRaw) (es := siD exSi) ?_)
  · refine pi1 fn43 ?_
    (repeat' first | (refine Owe.same ?_; first | refine Owe.o ?_ | refine Owe.mk ?_ ?_) | (refine Fork.same ?_; (first | refine fkD ?_ ?_ | refine fkN ?_ ?_ | refine fkM ?_ ?_) <;> intro h) | refine MvQ.stay ?_)
    (refine rqK rfl ?_; (repeat' first | exact rfl | (refine qS ?_; constructor)))
  · refine .cons (DI.sl fun i hi => ?_) (.cons (DI.sl fun i hi => ?_) (.cons ex3I (.cons (DI.sl fun i hi => ?_) (DIs.refl _))))
    · match i, hi with
      | 0, _ => exact .cons (DI.refl _) (.cons (DI.refl _) (.cons (DI.refl _) (.cons (DI.refl _) (.cons (DI.refl _) (.cons (DI.refl _) (.cons (DI.refl _) (.cons (DI.refl _) (.cons (DI.nil _ _) .nil))))))))
      | 1, _ => exact .cons (DI.refl _) (.cons (DI.refl _) (.cons (DI.refl _) (.cons (DI.refl _) (.cons (DI.refl _) (.cons (DI.refl _) (.cons (DI.refl _) (.cons (DI.refl _) (.cons (DI.nil _ _) .nil))))))))
      | 2, _ => exact .cons (DI.refl _) (.cons (DI.refl _) (.cons (DI.refl _) (.cons (DI.refl _) (.cons (DI.refl _) (.cons (DI.refl _) (.cons (DI.refl _) (.cons (DI.refl _) (.cons (DI.sl fun i hi => by
          match i, hi with
          | 0, _ => exact DIs.refl _) .nil))))))))
    · match i, hi with
      | 0, _ => exact .cons ex3I .nil
      | 1, _ => exact .cons ex3I .nil
      | 2, _ => exact .cons ex3I .nil
    · match i, hi with
      | 0, _ => exact DIs.refl _
/-- The same fold, to be calculated. -/
def grS (s : Si) : Nat → St8 → List Int → List Int × Int → List Int × Int
  | 0, _, p, b => updP s p b
  | f + 1, t, p, b => (List.range s.tk.length).foldl (fun b (k : Nat) => if spE s t (k : Int) = 0 then grS s f (spS s t (k : Int)) (p ++ [(k : Int)]) b else b) (updP s p b)
theorem grS_eq {s : Si} : ∀ (f : Nat) (t : St8) (p : List Int) (b : List Int × Int), grwF s f t p b = grS s f t p b
  | 0, t, p, b => by rw [grwF, grS]
  | f + 1, t, p, b => by
    have key : ∀ k, grwK s f t p (updP s p b) k = (List.range k).foldl (fun b (k : Nat) => if spE s t (k : Int) = 0 then grS s f (spS s t (k : Int)) (p ++ [(k : Int)]) b else b) (updP s p b) := fun k => by
      induction k with
      | zero => rw [grwK]; rfl
      | succ k ih =>
        rw [grwK, List.range_succ, List.foldl_append, ← ih, grS_eq f]
        rfl
    rw [grwF, grS, key]
theorem C44 : PFD Try.prog 44 [] (stv exSt) := by
  refine pi1 fn44 ?_
  (repeat' first | (refine Owe.same ?_; first | refine Owe.o ?_ | refine Owe.mk ?_ ?_) | (refine Fork.same ?_; (first | refine fkD ?_ ?_ | refine fkN ?_ ?_ | refine fkM ?_ ?_) <;> intro h) | refine MvQ.stay ?_)
  (refine rqK rfl ?_; (repeat' first | exact rfl | (refine qS ?_; constructor)))
theorem exSm : SiSm exSi := ⟨by decide, by decide, by decide, by decide, by decide, by decide⟩
theorem ex1 : sbE exSi exSt 0 = 0 := by decide +kernel
theorem ex2 : sameB (spS exSi exSt 0) exSt1 = true := by decide +kernel
theorem ex3 : lrE exSi exSt1 = (170, 0) := by decide +kernel
theorem ex4 : orE exSi exSt = 0 := by decide +kernel
theorem ex5 : bestP exSi exSt = ([0, 2], 90) := by
  rw [bestP, grS_eq]; decide +kernel
theorem ex6 : clE exSi exSt = ([0, 1, 2], 0) := by decide +kernel
theorem C9 : PFD Try.prog 9 [] (vbl true) := by
  have c1 := C41 (s := exSi) (t := exSt) (n := 0) ⟨exSm, by decide⟩
  rw [ex1, if_pos rfl] at c1
  have c2 := C20 (s := exSi) (t := exSt1) ⟨exSm, by decide⟩
  rw [ex3] at c2
  have c3 := C45 (s := exSi) (t := exSt) ⟨exSm, by decide⟩
  rw [ex4, if_pos rfl, if_pos rfl, ex5] at c3
  have c4 := C27 (s := exSi) (t := exSt) ⟨exSm, by decide⟩
  rw [ex6] at c4
  have hl : (spS exSi exSt 0).d.length < 4611686018427387904 := by decide +kernel
  have c5 := C40 (a := spS exSi exSt 0) (b := exSt1) hl
  rw [ex2] at c5
  have c6 := C46 (l := [0, 2]) (m := [0, 2]) (by decide)
  have c7 := C46 (l := [0, 1, 2]) (m := [0, 1, 2]) (by decide)
  rw [decide_eq_true rfl] at c6 c7
  generalize spS exSi exSt 0 = X at *
  refine pi1 fn9 ?_
  (repeat' first | (refine Owe.same ?_; first | refine Owe.o ?_ | refine Owe.mk ?_ ?_) | (refine Fork.same ?_; (first | refine fkY ?_ | refine fkF ?_ | ((first | refine fkD ?_ ?_ | refine fkN ?_ ?_ | refine fkM ?_ ?_) <;> intro h))) | ((first | refine OpsL.same ?_ | refine OpsDL.same ?_); first | refine pK C43 rfl rfl ?_ | refine pK C44 rfl rfl ?_ | refine pK c1 rfl rfl ?_ | refine pK c2 rfl rfl ?_ | refine pK c3 rfl rfl ?_ | refine pK c4 rfl rfl ?_ | refine pK c5 rfl rfl ?_) | refine MvQ.stay ?_)
  ((first | refine OpsL.same ?_ | refine OpsDL.same ?_); first | refine pK c6 rfl rfl ?_)
  (repeat' first | (refine Owe.same ?_; first | refine Owe.o ?_ | refine Owe.mk ?_ ?_) | (refine Fork.same ?_; (first | refine fkY ?_ | refine fkF ?_ | ((first | refine fkD ?_ ?_ | refine fkN ?_ ?_ | refine fkM ?_ ?_) <;> intro h))) | ((first | refine OpsL.same ?_ | refine OpsDL.same ?_); first | refine oK C43 rfl rfl rfl ?_) | refine MvQ.stay ?_)
  ((first | refine OpsL.same ?_ | refine OpsDL.same ?_); first | refine pK c7 rfl rfl ?_)
  (repeat' first | (refine Owe.same ?_; first | refine Owe.o ?_ | refine Owe.mk ?_ ?_) | (refine Fork.same ?_; (first | refine fkY ?_ | refine fkF ?_ | ((first | refine fkD ?_ ?_ | refine fkN ?_ ?_ | refine fkM ?_ ?_) <;> intro h))) | ((first | refine OpsL.same ?_ | refine OpsDL.same ?_); first | refine oK C43 rfl rfl rfl ?_) | refine MvQ.stay ?_)
  (refine rqK rfl ?_; (repeat' first | exact rfl | (refine qS ?_; constructor)))
end Go.Pw

set_option linter.unusedSimpArgs false
set_option linter.unusedVariables false
set_option maxHeartbeats 4000000
namespace Go.Pw
set_option maxRecDepth 2000
open Go Go.Proofs A1 A2 A3 A4
theorem C75 {s : Si} {n a : Int} : (s.ti.length ≤ 1000000 ∧ (∀ k, k < s.ti.length → isN (s.ti.getD k (0, 0, 0)).2.2) ∧ -1000000000 ≤ n ∧ n ≤ 1000000000) → PFD Try.prog 75 [siv s, vi .i64 n, vi .i64 a] (vi .i64 (swF s.ti n a)) := fun ⟨hl, hs, hn⟩ => by
  obtain ⟨q, hq⟩ : ∃ q, q = swF s.ti n a := ⟨_, rfl⟩
  rw [← hq]
  rw [swF] at hq
  refine pi1 fn75 ?_
  (repeat' first | (refine Owe.same ?_; first | refine Owe.o ?_ | refine Owe.mk ?_ ?_) | (refine Fork.same ?_; (first | refine fkD ?_ ?_ | refine fkN ?_ ?_ | refine fkM ?_ ?_) <;> intro h) | refine MvQ.stay ?_)
  · rw [if_pos h] at hq; subst hq; (refine rqK rfl ?_; (repeat' first | exact rfl | (refine qS ?_; constructor)))
  · rw [if_neg h] at hq
    refine Sat.lp0 (fun k : Nat => [(7, vi .i64 k), (3, .c (.rp (siD s))), (1, vi .i64 n), (2, vi .i64 a)]) (fun k => k ≤ s.ti.length ∧ q = swL n a (s.ti.drop k)) (fun k => s.ti.length - k) 0 ⟨Nat.zero_le _, hq⟩ (by ((first | refine qen ?_ | refine qvs ?_ | refine qeq ?_ | refine qst ?_ | refine qv ?_ | refine qc ?_ | refine qe ?_ | refine qcs ?_ | skip); (repeat' first | exact rfl | (refine qS ?_; constructor)))) ?_
    intro k hk
    refine Fork.dec (fun hlt => ?_) (fun hlt => ?_)
    · have hlt : k < s.ti.length := by omega
      have h1 : isN (s.ti.getD k (0, 0, 0)).2.2 := hs k hlt
      have e := swL_drop n a s.ti k hlt
      rw [← hk.2] at e
      (repeat' first | (refine Owe.same ?_; first | refine Owe.o ?_ | refine Owe.mk ?_ ?_) | (refine Fork.same ?_; (first | refine fkD ?_ ?_ | refine fkN ?_ ?_ | refine fkM ?_ ?_) <;> intro h) | ((first | refine OpsL.same ?_ | refine OpsDL.same ?_); first | refine pK C19 rfl rfl ?_) | refine MvQ.stay ?_)
      · have h : (s.ti.getD k (0, 0, 0)).1 ≤ a ∧ a ≤ (s.ti.getD k (0, 0, 0)).2.1 := h
        rw [if_pos h] at e; subst e
        (refine rqK rfl ?_; (repeat' first | exact rfl | (refine qS ?_; constructor)))
      · have h : ¬ ((s.ti.getD k (0, 0, 0)).1 ≤ a ∧ a ≤ (s.ti.getD k (0, 0, 0)).2.1) := h
        rw [if_neg h] at e
        exact again0 (k + 1) ⟨hlt, e⟩ (by omega) (by ((first | refine qen ?_ | refine qvs ?_ | refine qeq ?_ | refine qst ?_ | refine qv ?_ | refine qc ?_ | refine qe ?_ | refine qcs ?_ | skip); (repeat' first | exact rfl | (refine qS ?_; constructor))))
    · have e := hk.2
      rw [List.drop_of_length_le (by omega)] at e
      (repeat' first | (refine Owe.same ?_; first | refine Owe.o ?_ | refine Owe.mk ?_ ?_) | (refine Fork.same ?_; (first | refine fkD ?_ ?_ | refine fkN ?_ ?_ | refine fkM ?_ ?_) <;> intro h) | refine MvQ.stay ?_)
      subst e
      (refine rqK rfl ?_; (repeat' first | exact rfl | (refine qS ?_; constructor)))
theorem C25 {s : Si} {t : St8} : DvB s t → PFD Try.prog 25 [siv s, stv t] (.agg [int (hmT s t), int (hmT s t * s.swim)]) := fun h => by
  have hb := hmT_bd h
  have h1 := h.pl
  have h2 := h.ok.m
  have h3 := (h.ok.r t.p.toNat (by omega)).1.1
  have h4 := h.ok.e
  have c1 := C75 (s := s) (n := s.ho.getD t.p.toNat 0) (a := t.t) ⟨by omega, fun k hk => (h.ok.u k hk).1.2, by omega⟩
  obtain ⟨n, hn⟩ : ∃ n, n = hmT s t := ⟨_, rfl⟩
  rw [← hn] at hb ⊢
  change PFD Try.prog 75 _ (vi .i64 (hmT s t)) at c1
  rw [← hn] at c1
  have hm := mbd (a := n) (A := 20000) (by omega) (b := s.swim) (B := 10000) (by omega)
  refine pi1 fn25 ?_
  (repeat' first | (refine Owe.same ?_; first | refine Owe.o ?_ | refine Owe.mk ?_ ?_) | (refine Fork.same ?_; (first | refine fkD ?_ ?_ | refine fkN ?_ ?_ | refine fkM ?_ ?_) <;> intro h) | ((first | refine OpsL.same ?_ | refine OpsDL.same ?_); first | refine pK c1 rfl rfl ?_) | refine MvQ.stay ?_)
  (refine rqK rfl ?_; (repeat' first | exact rfl | (refine qS ?_; constructor)))
theorem C26 {s : Si} {t : St8} : DvB s t → PFD Try.prog 26 [siv s, stv t] (vbl (reB s t)) := fun h => by
  have hb := hmT_bd h
  have h1 := h.tm
  have h2 := h.en
  have h4 := h.ok.e
  have hm := mbd (a := hmT s t) (A := 20000) (by omega) (b := s.swim) (B := 10000) (by omega)
  have c1 := C25 h
  refine pi1 fn26 ?_
  (repeat' first | (refine Owe.same ?_; first | refine Owe.o ?_ | refine Owe.mk ?_ ?_) | (refine Fork.same ?_; (first | refine fkD ?_ ?_ | refine fkN ?_ ?_ | refine fkM ?_ ?_) <;> intro h) | ((first | refine OpsL.same ?_ | refine OpsDL.same ?_); first | refine pK c1 rfl rfl ?_) | refine MvQ.stay ?_)
  · (refine rqK rfl ?_; (repeat' first | exact rfl | (refine qS ?_; constructor)))
    rw [reB]; exact decide_eq_decide.2 ⟨fun hh => ⟨h, hh⟩, fun hh => hh.2⟩
  · (refine rqK rfl ?_; (repeat' first | exact rfl | (refine qS ?_; constructor)))
    have hf : reB s t = false := decide_eq_false fun hh => h hh.1
    exact hf
theorem C73 {s : Si} {t : St8} {u : Int} : (OnOk s t ∧ -1000000 ≤ u ∧ u ≤ 1000000) → PFD Try.prog 73 [siv s, stv t, vi .i64 u] (stv (wtS s t u)) := fun ⟨h, hu⟩ => by
  have h1 := h.tm
  have h2 := h.en
  have h3 := h.ok.e
  have hm := mbd (a := s.idle) (A := 10000) (by omega) (b := u - t.t) (B := 2000000) (by omega)
  refine pi1 fn73 ?_
  (repeat' first | (refine Owe.same ?_; first | refine Owe.o ?_ | refine Owe.mk ?_ ?_) | (refine Fork.same ?_; (first | refine fkD ?_ ?_ | refine fkN ?_ ?_ | refine fkM ?_ ?_) <;> intro h) | refine MvQ.stay ?_)
  (refine rqK rfl ?_; (repeat' first | exact rfl | (refine qS ?_; constructor)))
  rw [Int.mul_comm]
theorem lrD_skip {s : Si} {t : St8} {a : Nat} : ∀ {b : Nat}, a ≤ b → (∀ k, a ≤ k → k < b → reB s (wtS s t (t.t + k)) = false) → lrD s t b = lrD s t a
  | 0, h, _ => by obtain rfl : a = 0 := by omega
                  rfl
  | b + 1, h, hk => by
    rcases Nat.lt_or_ge b a with h1 | h1
    · obtain rfl : a = b + 1 := by omega
      rfl
    · rw [lrD, hk b h1 (by omega), if_neg (by decide)]
      exact lrD_skip h1 fun k h2 h3 => hk k h2 (by omega)
theorem lrD_hit {s : Si} {t : St8} {a b : Nat} (h : a < b) (hr : reB s (wtS s t (t.t + a)) = true) (hk : ∀ k, a < k → k < b → reB s (wtS s t (t.t + k)) = false) : lrD s t b = (t.t + a, 0) := by
  rw [lrD_skip (a := a + 1) (by omega) (fun k h1 h2 => hk k (by omega) h2), lrD, if_pos hr]
theorem swL_congr {n a b : Int} : ∀ {l : List (Int × Int × Int)}, (∀ x ∈ l, (x.1 ≤ a ∧ a ≤ x.2.1) ↔ (x.1 ≤ b ∧ b ≤ x.2.1)) → swL n a l = swL n b l
  | [], _ => rfl
  | x :: l, h => by
    have h1 := h x (List.mem_cons_self ..)
    rw [swL, swL, swL_congr (l := l) fun y hy => h y (List.mem_cons_of_mem _ hy)]
    by_cases h2 : x.1 ≤ a ∧ a ≤ x.2.1
    · rw [if_pos h2, if_pos (h1.1 h2)]
    · rw [if_neg h2, if_neg fun hh => h2 (h1.2 hh)]
/-- The ticks of the tides end a range. -/
abbrev toP (s : Si) (fr to : Int) (k : Nat) : Prop := ∀ i, i < k → (fr < (s.ti.getD i (0, 0, 0)).1 → to ≤ (s.ti.getD i (0, 0, 0)).1 - 1) ∧ (fr ≤ (s.ti.getD i (0, 0, 0)).2.1 → to ≤ (s.ti.getD i (0, 0, 0)).2.1)
theorem hmT_range {s : Si} {t : St8} {fr to u : Int} (h : toP s fr to s.ti.length) (hu : fr ≤ u ∧ u ≤ to) : hmT s (wtS s t u) = hmT s (wtS s t fr) := by
  simp only [hmT, swF]
  split
  · rfl
  · refine swL_congr fun x hx => ?_
    obtain ⟨i, hi, e⟩ := List.getElem_of_mem hx
    have h1 := h i hi
    rw [List.getD_eq_getElem?_getD, List.getElem?_eq_getElem hi] at h1
    have h1 : (fr < s.ti[i].1 → to ≤ s.ti[i].1 - 1) ∧ (fr ≤ s.ti[i].2.1 → to ≤ s.ti[i].2.1) := h1
    rw [e] at h1
    omega
/-- The last tick of a range at which a state that waited can return, or one before the range. -/
def lsT (s : Si) (t : St8) (fr to : Int) : Int :=
  let R := hmT s (wtS s t fr)
  let left := t.w - R * s.swim - s.res
  if left < 0 then fr - 1 else if 0 < s.idle then min (min to (s.fin - R)) (t.t + left.tdiv s.idle) else min to (s.fin - R)
theorem lsT_iff {s : Si} {t : St8} (hO : OnOk s t) {fr to u : Int} (h : toP s fr to s.ti.length) (hf : t.t ≤ fr) (hu : fr ≤ u ∧ u ≤ to) : reB s (wtS s t u) = true ↔ u ≤ lsT s t fr to := by
  have e4 := hO.ok.e
  rw [reB, decide_eq_true_eq, hmT_range h hu, lsT]
  generalize hmT s (wtS s t fr) = R
  have hw : (wtS s t u).w = t.w - (u - t.t) * s.idle := rfl
  have ht : (wtS s t u).t = u := rfl
  rw [hw, ht]
  have hm0 : 0 ≤ (u - t.t) * s.idle := Int.mul_nonneg (by omega) (by omega)
  split
  · omega
  · rename_i hl
    split
    · rename_i hi
      have key : (u - t.t) * s.idle ≤ t.w - R * s.swim - s.res ↔ u - t.t ≤ (t.w - R * s.swim - s.res).tdiv s.idle := by
        rw [Int.tdiv_eq_ediv_of_nonneg (by omega)]
        exact (Int.le_ediv_iff_mul_le hi).symm
      omega
    · have : s.idle = 0 := by omega
      rw [this, Int.mul_zero]
      omega
theorem lrD_range {s : Si} {t : St8} (hO : OnOk s t) {fr to : Int} (h : toP s fr to s.ti.length) (hf : t.t ≤ fr) (hu : fr ≤ to) : lrD s t (to + 1 - t.t).toNat = if fr ≤ lsT s t fr to then (lsT s t fr to, 0) else lrD s t (fr - t.t).toNat := by
  have key := fun u hu => lsT_iff hO (u := u) h hf hu
  have hle : lsT s t fr to ≤ to := by
    rw [lsT]
    split
    · omega
    · split <;> omega
  generalize lsT s t fr to = L at key hle ⊢
  split
  · rename_i h1
    have e := lrD_hit (s := s) (t := t) (a := (L - t.t).toNat) (b := (to + 1 - t.t).toNat) (by omega) (by
      rw [show t.t + ((L - t.t).toNat : Int) = L by omega]
      exact (key L ⟨h1, hle⟩).2 (Int.le_refl _)) (fun k h2 h3 => by
      have h4 := key (t.t + k) ⟨by omega, by omega⟩
      rcases hb : reB s (wtS s t (t.t + k)) with _ | _
      · rfl
      · have := h4.1 hb; omega)
    rw [e, show t.t + ((L - t.t).toNat : Int) = L by omega]
  · rename_i h1
    refine lrD_skip (by omega) fun k h2 h3 => ?_
    have h4 := key (t.t + k) ⟨by omega, by omega⟩
    rcases hb : reB s (wtS s t (t.t + k)) with _ | _
    · rfl
    · have := h4.1 hb; omega
/-- The last return, as the reference says it. -/
abbrev lsE (s : Si) (t : St8) : Int × Int := lrD s t (s.fin - t.t + 1).toNat
theorem C24 {s : Si} {t : St8} : OnOk s t → PFD Try.prog 24 [siv s, stv t] (.tup [vi .i64 (lsE s t).1, vbl (decide ((lsE s t).2 = 0))]) := fun hO => by
  obtain ⟨q, hq⟩ : ∃ q, q = lsE s t := ⟨_, rfl⟩
  rw [← hq]
  have hm6 := hO.ok.m
  have h1 := hO.tm
  have h2 := hO.en
  have h4 := hO.ok.e
  refine pi2 fn24 ?_
  (repeat' first | (refine Owe.same ?_; first | refine Owe.o ?_ | refine Owe.mk ?_ ?_) | (refine Fork.same ?_; (first | refine fkD ?_ ?_ | refine fkN ?_ ?_ | refine fkM ?_ ?_) <;> intro h) | refine MvQ.stay ?_)
  refine Sat.lp0 (fun ((fr, b, f) : Int × Int × Bool) => [(8, vi .i64 fr), (6, vi .i64 b), (7, vbl f), (2, .c (.rp (siD s))), (3, .c (.rp (stD t)))]) (fun ((fr, b, f) : Int × Int × Bool) => t.t ≤ fr ∧ (fr = t.t ∨ fr ≤ s.fin + 1) ∧ lrD s t (fr - t.t).toNat = (b, if f = true then 0 else 12)) (fun ((fr, _, _) : Int × Int × Bool) => (s.fin + 1 - fr).toNat) (t.t, 0, false) ⟨Int.le_refl _, .inl rfl, by rw [Int.sub_self]; rfl⟩ (by ((first | refine qen ?_ | refine qvs ?_ | refine qeq ?_ | refine qst ?_ | refine qv ?_ | refine qc ?_ | refine qe ?_ | refine qcs ?_ | skip); (repeat' first | exact rfl | (refine qS ?_; constructor)))) ?_
  intro ⟨fr, b, f⟩ ⟨i1, i2, i3⟩
  refine Fork.dec (fun hlt => ?_) (fun hlt => ?_)
  · have hlt : fr ≤ s.fin := hlt
    (repeat' first | (refine Owe.same ?_; first | refine Owe.o ?_ | refine Owe.mk ?_ ?_) | (refine Fork.same ?_; (first | refine fkD ?_ ?_ | refine fkN ?_ ?_ | refine fkM ?_ ?_) <;> intro h) | refine MvQ.stay ?_)
    refine Sat.lp0 (fun ((k, to) : Nat × Int) => [(10, vi .i64 k), (9, vi .i64 to), (8, vi .i64 fr), (6, vi .i64 b), (7, vbl f), (2, .c (.rp (siD s))), (3, .c (.rp (stD t)))]) (fun ((k, to) : Nat × Int) => k ≤ s.ti.length ∧ (fr ≤ to ∧ to ≤ s.fin) ∧ toP s fr to k) (fun ((k, _) : Nat × Int) => s.ti.length - k) (0, s.fin) ⟨Nat.zero_le _, ⟨hlt, Int.le_refl _⟩, fun i hi => by omega⟩ (by ((first | refine qen ?_ | refine qvs ?_ | refine qeq ?_ | refine qst ?_ | refine qv ?_ | refine qc ?_ | refine qe ?_ | refine qcs ?_ | skip); (repeat' first | exact rfl | (refine qS ?_; constructor)))) ?_
    intro ⟨k, to⟩ ⟨j1, j2, j3⟩
    refine Fork.dec (fun hlk => ?_) (fun hlk => ?_)
    · have hlk : k < s.ti.length := by simpa using hlk
      have hu := hO.ok.u k hlk
      have hle : ∀ {to' : Int}, to' ≤ to → ((fr < (s.ti.getD k (0, 0, 0)).1 → to' ≤ (s.ti.getD k (0, 0, 0)).1 - 1) ∧ (fr ≤ (s.ti.getD k (0, 0, 0)).2.1 → to' ≤ (s.ti.getD k (0, 0, 0)).2.1)) → toP s fr to' (k + 1) := fun ht hh => succ_all (fun i hi => by have := j3 i hi; omega) hh
      (repeat' first | (refine Owe.same ?_; first | refine Owe.o ?_ | refine Owe.mk ?_ ?_) | (refine Fork.same ?_; (first | refine fkD ?_ ?_ | refine fkN ?_ ?_ | refine fkM ?_ ?_) <;> intro h) | refine MvQ.stay ?_)
      · rename_i g
        have g : fr < (s.ti.getD k (0, 0, 0)).1 := g
        have h : fr ≤ (s.ti.getD k (0, 0, 0)).2.1 := h
        exact again0 (k + 1, min (min to ((s.ti.getD k (0, 0, 0)).1 - 1)) (s.ti.getD k (0, 0, 0)).2.1) ⟨hlk, ⟨by omega, by omega⟩, hle (by omega) ⟨by omega, by omega⟩⟩ (by show s.ti.length - (k + 1) < s.ti.length - k; omega) (by ((first | refine qen ?_ | refine qvs ?_ | refine qeq ?_ | refine qst ?_ | refine qv ?_ | refine qc ?_ | refine qe ?_ | refine qcs ?_ | skip); (repeat' first | exact rfl | (refine qS ?_; constructor))))
      · rename_i g
        have g : fr < (s.ti.getD k (0, 0, 0)).1 := g
        have h : ¬ fr ≤ (s.ti.getD k (0, 0, 0)).2.1 := h
        exact again0 (k + 1, min to ((s.ti.getD k (0, 0, 0)).1 - 1)) ⟨hlk, ⟨by omega, by omega⟩, hle (by omega) ⟨by omega, by omega⟩⟩ (by show s.ti.length - (k + 1) < s.ti.length - k; omega) (by ((first | refine qen ?_ | refine qvs ?_ | refine qeq ?_ | refine qst ?_ | refine qv ?_ | refine qc ?_ | refine qe ?_ | refine qcs ?_ | skip); (repeat' first | exact rfl | (refine qS ?_; constructor))))
      · rename_i g
        have g : ¬ fr < (s.ti.getD k (0, 0, 0)).1 := g
        have h : fr ≤ (s.ti.getD k (0, 0, 0)).2.1 := h
        exact again0 (k + 1, min to (s.ti.getD k (0, 0, 0)).2.1) ⟨hlk, ⟨by omega, by omega⟩, hle (by omega) ⟨by omega, by omega⟩⟩ (by show s.ti.length - (k + 1) < s.ti.length - k; omega) (by ((first | refine qen ?_ | refine qvs ?_ | refine qeq ?_ | refine qst ?_ | refine qv ?_ | refine qc ?_ | refine qe ?_ | refine qcs ?_ | skip); (repeat' first | exact rfl | (refine qS ?_; constructor))))
      · rename_i g
        have g : ¬ fr < (s.ti.getD k (0, 0, 0)).1 := g
        have h : ¬ fr ≤ (s.ti.getD k (0, 0, 0)).2.1 := h
        exact again0 (k + 1, to) ⟨hlk, ⟨by omega, by omega⟩, hle (by omega) ⟨by omega, by omega⟩⟩ (by show s.ti.length - (k + 1) < s.ti.length - k; omega) (by ((first | refine qen ?_ | refine qvs ?_ | refine qeq ?_ | refine qst ?_ | refine qv ?_ | refine qc ?_ | refine qe ?_ | refine qcs ?_ | skip); (repeat' first | exact rfl | (refine qS ?_; constructor))))
    · have hlk : ¬ (k : Int) < s.ti.length := hlk
      have : k = s.ti.length := by omega
      subst this
      have hb := wtS_b (u := fr) hO (by omega)
      have c1 := C73 (s := s) (t := t) (u := fr) ⟨hO, by omega⟩
      have c2 := C25 hb
      have hR := hmT_bd hb
      have e := lrD_range hO j3 i1 j2.1
      rw [i3] at e
      have hL : lsT s t fr to = if t.w - hmT s (wtS s t fr) * s.swim - s.res < 0 then fr - 1 else if 0 < s.idle then min (min to (s.fin - hmT s (wtS s t fr))) (t.t + (t.w - hmT s (wtS s t fr) * s.swim - s.res).tdiv s.idle) else min to (s.fin - hmT s (wtS s t fr)) := rfl
      generalize hmT s (wtS s t fr) = R at *
      have hm := mbd (a := R) (A := 20000) (by omega) (b := s.swim) (B := 10000) (by omega)
      have htd := tdiv_bd (a := t.w - R * s.swim - s.res) (b := s.idle) (M := 1000000000000) (by omega)
      (repeat' first | (refine Owe.same ?_; first | refine Owe.o ?_ | refine Owe.mk ?_ ?_) | (refine Fork.same ?_; (first | refine fkY ?_ | refine fkF ?_ | ((first | refine fkD ?_ ?_ | refine fkN ?_ ?_ | refine fkM ?_ ?_) <;> intro h))) | ((first | refine OpsL.same ?_ | refine OpsDL.same ?_); first | refine oK c1 rfl rfl rfl ?_ | refine oK c2 rfl rfl rfl ?_) | refine MvQ.stay ?_)
      (repeat' first | (refine Owe.same ?_; first | refine Owe.o ?_ | refine Owe.mk ?_ ?_) | (refine Fork.same ?_; (first | refine fkD ?_ ?_ | refine fkN ?_ ?_ | refine fkM ?_ ?_) <;> intro h) | refine MvQ.stay ?_)
      all_goals
        first
        | (have hL1 := hL
           rw [if_pos (by assumption)] at hL1
           rw [hL1] at e
           rw [if_neg (by omega)] at e
           refine again0 (to + 1, b, f) ⟨by omega, .inr (by omega), e⟩ (by show (s.fin + 1 - (to + 1)).toNat < (s.fin + 1 - fr).toNat; omega) (by ((first | refine qen ?_ | refine qvs ?_ | refine qeq ?_ | refine qst ?_ | refine qv ?_ | refine qc ?_ | refine qe ?_ | refine qcs ?_ | skip); (repeat' first | exact rfl | (refine qS ?_; constructor))))
           done)
        | (have hL1 := hL
           rw [if_neg (by assumption), if_pos (by assumption)] at hL1
           rw [hL1] at e
           rw [if_pos (by assumption)] at e
           refine again0 (to + 1, _, true) ⟨by omega, .inr (by omega), e⟩ (by show (s.fin + 1 - (to + 1)).toNat < (s.fin + 1 - fr).toNat; omega) (by ((first | refine qen ?_ | refine qvs ?_ | refine qeq ?_ | refine qst ?_ | refine qv ?_ | refine qc ?_ | refine qe ?_ | refine qcs ?_ | skip); (repeat' first | exact rfl | (refine qS ?_; constructor))))
           done)
        | (have hL1 := hL
           rw [if_neg (by assumption), if_pos (by assumption)] at hL1
           rw [hL1] at e
           rw [if_neg (by assumption)] at e
           refine again0 (to + 1, b, f) ⟨by omega, .inr (by omega), e⟩ (by show (s.fin + 1 - (to + 1)).toNat < (s.fin + 1 - fr).toNat; omega) (by ((first | refine qen ?_ | refine qvs ?_ | refine qeq ?_ | refine qst ?_ | refine qv ?_ | refine qc ?_ | refine qe ?_ | refine qcs ?_ | skip); (repeat' first | exact rfl | (refine qS ?_; constructor))))
           done)
        | (have hL1 := hL
           rw [if_neg (by assumption), if_neg (by assumption)] at hL1
           rw [hL1] at e
           rw [if_pos (by assumption)] at e
           refine again0 (to + 1, _, true) ⟨by omega, .inr (by omega), e⟩ (by show (s.fin + 1 - (to + 1)).toNat < (s.fin + 1 - fr).toNat; omega) (by ((first | refine qen ?_ | refine qvs ?_ | refine qeq ?_ | refine qst ?_ | refine qv ?_ | refine qc ?_ | refine qe ?_ | refine qcs ?_ | skip); (repeat' first | exact rfl | (refine qS ?_; constructor))))
           done)
        | (have hL1 := hL
           rw [if_neg (by assumption), if_neg (by assumption)] at hL1
           rw [hL1] at e
           rw [if_neg (by assumption)] at e
           refine again0 (to + 1, b, f) ⟨by omega, .inr (by omega), e⟩ (by show (s.fin + 1 - (to + 1)).toNat < (s.fin + 1 - fr).toNat; omega) (by ((first | refine qen ?_ | refine qvs ?_ | refine qeq ?_ | refine qst ?_ | refine qv ?_ | refine qc ?_ | refine qe ?_ | refine qcs ?_ | skip); (repeat' first | exact rfl | (refine qS ?_; constructor))))
           done)
        | skip
  · have hlt : ¬ fr ≤ s.fin := hlt
    have e : q = (b, if f = true then 0 else 12) := by
      rw [hq, ← i3, lsE]
      congr 1
      omega
    subst e
    (repeat' first | (refine Owe.same ?_; first | refine Owe.o ?_ | refine Owe.mk ?_ ?_) | (refine Fork.same ?_; (first | refine fkD ?_ ?_ | refine fkN ?_ ?_ | refine fkM ?_ ?_) <;> intro h) | refine MvQ.stay ?_)
    (refine rqK rfl ?_; (repeat' first | exact rfl | (refine qS ?_; constructor)))
    cases f <;> rfl
end Go.Pw

set_option linter.unusedSimpArgs false
set_option linter.unusedVariables false
set_option maxHeartbeats 4000000
namespace Go.Pw
set_option maxRecDepth 2000
open Go Go.Proofs A1 A2 A3 A4
theorem lrE_eq {s : Si} {t : St8} (h : onE s t = 0) : lrE s t = lsE s t := by rw [lrE, if_pos h]
theorem lrD_or {s : Si} {t : St8} : ∀ n, (lrD s t n).2 = 0 ∨ lrD s t n = (0, 12)
  | 0 => .inr rfl
  | n + 1 => by
    rw [lrD]
    split
    · exact .inl rfl
    · exact lrD_or n
theorem C5 {s : Si} {t : St8} : PFD Try.prog 5 [siv s, stv t] (vbl true) := by
  have f1 := C10 (s := s)
  have f2 := C11 (t := t)
  by_cases hf : fewP s
  · rw [fewB, decide_eq_true hf] at f1
    have hs := (Few.of hf).sm
    by_cases hd : (t.d.length : Int) ≤ 8
    · rw [decide_eq_true hd] at f2
      have c1 := C13 hs
      have c2 := C15 (t := t) (by omega)
      have c3 := C23 (s := s) (t := t) ⟨hs, by omega⟩
      have c4 := C21 (s := s) (t := t) ⟨hs, by omega⟩
      have c5 := C20 (s := s) (t := t) ⟨hs, by omega⟩
      have c6 := C18 (s := s) (t := t) ⟨hs, by omega⟩
      by_cases h0 : onE s t = 0
      · have hO := OnOk.of h0
        have c7 := C24 hO
        have c8 := C25 hO.b
        have c9 := C26 hO.b
        rw [lrE_eq h0] at c5
        rw [h0] at c3 c4 c6
        rw [decide_eq_true rfl] at c3 c4
        rw [Bool.true_and] at c4
        have hor : (lsE s t).2 = 0 ∨ lsE s t = (0, 12) := lrD_or _
        generalize lsE s t = L at *
        generalize reB s t = r at *
        generalize hmT s t = n at *
        generalize n * s.swim = m at *
        rcases hor with h | h
        · rw [h] at c5 c7
          rw [decide_eq_true rfl] at c7
          refine pi1 fn5 ?_
          (repeat' first | (refine Owe.same ?_; first | refine Owe.o ?_ | refine Owe.mk ?_ ?_) | (refine Fork.same ?_; (first | refine fkY ?_ | refine fkF ?_ | ((first | refine fkD ?_ ?_ | refine fkN ?_ ?_ | refine fkM ?_ ?_) <;> intro h))) | ((first | refine OpsL.same ?_ | refine OpsDL.same ?_); first | refine oK C9 rfl rfl rfl ?_ | refine oK f1 rfl rfl rfl ?_ | refine oK f2 rfl rfl rfl ?_ | refine oK c1 rfl rfl rfl ?_ | refine oK c2 rfl rfl rfl ?_ | refine oK c3 rfl rfl rfl ?_ | refine oK c4 rfl rfl rfl ?_ | refine oK c5 rfl rfl rfl ?_ | refine oK c6 rfl rfl rfl ?_ | refine oK c7 rfl rfl rfl ?_ | refine oK c8 rfl rfl rfl ?_ | refine oK c9 rfl rfl rfl ?_) | refine MvQ.stay ?_)
          all_goals first
            | exact absurd rfl h
            | (exfalso; simp at h; done)
            | ((refine rqK rfl ?_; (repeat' first | exact rfl | (refine qS ?_; constructor))); all_goals simp)
        · rw [h] at c5 c7
          rw [decide_eq_false (by decide)] at c7
          refine pi1 fn5 ?_
          (repeat' first | (refine Owe.same ?_; first | refine Owe.o ?_ | refine Owe.mk ?_ ?_) | (refine Fork.same ?_; (first | refine fkY ?_ | refine fkF ?_ | ((first | refine fkD ?_ ?_ | refine fkN ?_ ?_ | refine fkM ?_ ?_) <;> intro h))) | ((first | refine OpsL.same ?_ | refine OpsDL.same ?_); first | refine oK C9 rfl rfl rfl ?_ | refine oK f1 rfl rfl rfl ?_ | refine oK f2 rfl rfl rfl ?_ | refine oK c1 rfl rfl rfl ?_ | refine oK c2 rfl rfl rfl ?_ | refine oK c3 rfl rfl rfl ?_ | refine oK c4 rfl rfl rfl ?_ | refine oK c5 rfl rfl rfl ?_ | refine oK c6 rfl rfl rfl ?_ | refine oK c7 rfl rfl rfl ?_ | refine oK c8 rfl rfl rfl ?_ | refine oK c9 rfl rfl rfl ?_) | refine MvQ.stay ?_)
          all_goals first
            | exact absurd rfl h
            | (exfalso; simp at h; done)
            | ((refine rqK rfl ?_; (repeat' first | exact rfl | (refine qS ?_; constructor))); all_goals simp)
      · have e5 : lrE s t = (0, onE s t) := by rw [lrE, if_neg h0]
        rw [e5] at c5
        rw [decide_eq_false h0] at c3 c4
        rw [Bool.false_and] at c4
        generalize onE s t = e at *
        refine pi1 fn5 ?_
        (repeat' first | (refine Owe.same ?_; first | refine Owe.o ?_ | refine Owe.mk ?_ ?_) | (refine Fork.same ?_; (first | refine fkY ?_ | refine fkF ?_ | ((first | refine fkD ?_ ?_ | refine fkN ?_ ?_ | refine fkM ?_ ?_) <;> intro h))) | ((first | refine OpsL.same ?_ | refine OpsDL.same ?_); first | refine oK C9 rfl rfl rfl ?_ | refine oK f1 rfl rfl rfl ?_ | refine oK f2 rfl rfl rfl ?_ | refine oK c1 rfl rfl rfl ?_ | refine oK c2 rfl rfl rfl ?_ | refine oK c3 rfl rfl rfl ?_ | refine oK c4 rfl rfl rfl ?_ | refine oK c5 rfl rfl rfl ?_ | refine oK c6 rfl rfl rfl ?_) | refine MvQ.stay ?_)
        (refine rqK rfl ?_; (repeat' first | exact rfl | (refine qS ?_; constructor)))
    · rw [decide_eq_false hd] at f2
      refine pi1 fn5 ?_
      (repeat' first | (refine Owe.same ?_; first | refine Owe.o ?_ | refine Owe.mk ?_ ?_) | (refine Fork.same ?_; (first | refine fkY ?_ | refine fkF ?_ | ((first | refine fkD ?_ ?_ | refine fkN ?_ ?_ | refine fkM ?_ ?_) <;> intro h))) | ((first | refine OpsL.same ?_ | refine OpsDL.same ?_); first | refine oK C9 rfl rfl rfl ?_ | refine oK f1 rfl rfl rfl ?_ | refine oK f2 rfl rfl rfl ?_) | refine MvQ.stay ?_)
      (refine rqK rfl ?_; (repeat' first | exact rfl | (refine qS ?_; constructor)))
  · rw [fewB, decide_eq_false hf] at f1
    refine pi1 fn5 ?_
    (repeat' first | (refine Owe.same ?_; first | refine Owe.o ?_ | refine Owe.mk ?_ ?_) | (refine Fork.same ?_; (first | refine fkY ?_ | refine fkF ?_ | ((first | refine fkD ?_ ?_ | refine fkN ?_ ?_ | refine fkM ?_ ?_) <;> intro h))) | ((first | refine OpsL.same ?_ | refine OpsDL.same ?_); first | refine oK C9 rfl rfl rfl ?_ | refine oK f1 rfl rfl rfl ?_) | refine MvQ.stay ?_)
    (refine rqK rfl ?_; (repeat' first | exact rfl | (refine qS ?_; constructor)))
end Go.Pw

namespace Go.Proofs.Ytnimcgmgnmlfgaa
open Go.ChangeShapes Go.WideShapes Go.ChangeAt Go.RowKit Go.Pw
theorem Try.own : ownKnob Try.prog.godebug = none := by kernel_rfl
theorem Try.laidOut : laidOutB Try.prog = true := by kernel_rfl
theorem shapes : shAll Try.prog [27, 29] = some [(true, siSh), (true, stSh)] := by kernel_rfl
theorem law (args : List V) (h : ArgOk [(true, siSh), (true, stSh)] args) : PFD Try.prog 5 args (vbl true) := by
  match args, h with
  | [v0, v1], ⟨h0, h1, _⟩ =>
    obtain ⟨s0, r0, q0⟩ := arg_site h0
    obtain ⟨t1, r1, q1⟩ := arg_state h1
    exact PFD.ri C5 (.cons r0 (.cons r1 .nil))
set_option maxRecDepth 100000 in
theorem lifted (os : Os) (started : os.Started) (H : Type) (enc : TypeId × Value → H) :
    ReturnsInHanded {} Try.checked os 5 .any (Rows.diveReturnsSpec.pre6 enc Try.prog Try.f5 Rows.diveReturnsRow.domain false) (Rows.diveReturnsSpec.post enc Try.prog Try.f5 false true false false) := by
  refine returnsInHanded_of_change (C := Try.checked) Try.own started (by kernel_rfl) Try.func5
    (ChangeSpec.witness6 (enc := enc) (C := Try.checked) false ⟨#[], #[.agg #[.slice none 0 0, .slice none 0 0, .slice none 0 0, .slice none 0 0, .int .i64 0, .int .i64 0, .int .i64 0, .int .i64 0], .agg #[.int .i64 0, .int .i64 0, .int .i64 0, .int .i64 0, .slice none 0 0]], []⟩ 8 (by kernel_rfl) (by kernel_rfl) (by kernel_rfl) (by kernel_rfl)) ?_
  intro W base args ds gs before hval0 hW hcnd _
  exact law_calls (P := Try.prog) (F := Try.f5) (tb := 4) Try.laidOut (by rw [Try.params5]; exact shapes) rfl (fun ds hl => by
    rw [Try.params5] at hl
    match ds, hl with
    | [d0, d1], _ => rfl) (by kernel_rfl) Try.underlying4 law W base args ds gs before hval0 hW
theorem row_holds : Rows.DiveReturnsSaid :=
  OpenClaim.holds_of_wide 5 Try.f5 rfl rfl rfl rfl rfl rfl rfl ⟨rfl, rfl, rfl, rfl, rfl⟩ rfl rfl rfl rfl rfl (by kernel_rfl) Try.func5 (by kernel_rfl)
    (of_decide_eq_true (by kernel_rfl)) (by unfold Func.isWrapper; rw [if_neg (by decide +kernel)]; exact ⟨rfl, rfl⟩)
    (fun os started H enc _ => lifted os started H enc)
end Go.Proofs.Ytnimcgmgnmlfgaa
