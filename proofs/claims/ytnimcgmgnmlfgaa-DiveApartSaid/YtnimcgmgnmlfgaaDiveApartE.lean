/- Proved here at the end: the row named in the last theorem, on no condition. -/
import Derived.Test.YtnimcgmgnmlfgaaDiveApartD
import Derived.Test.YtnimcgmgnmlfgaaProg
import Derived.Test.YtnimcgmgnmlfgaaRows
set_option linter.unusedSimpArgs false
set_option linter.unusedVariables false
set_option maxHeartbeats 4000000
namespace Go.Pw
set_option maxRecDepth 2000
open Go Go.Proofs A1 A2 A3 A4
abbrev tkC (t : Tk) : List C := [str t.n, int t.p, int t.d, int t.w, int t.o, int t.v, int t.lo, int t.hi, ints t.a]
abbrev rgP (t : Tk) : Prop := ((0 ≤ t.p ∧ t.p ≤ 4) ∧ isN t.d ∧ isN t.w ∧ isN t.o ∧ isN t.v) ∧ isT t.lo ∧ isT t.hi
theorem odd4 {a b c d : Int} : oddI [a, b, c, d] = false ↔ isN a ∧ isN b ∧ isN c ∧ isN d := by
  simp [oddI]
theorem tkE_n {l : List Tk} {k : Nat} (h : ¬ nmP (l.getD k tk0).n) : tkE l k = 4 := by
  have e : tkF l k (l.getD k tk0) = 4 := by rw [tkF, unl, decide_eq_false h]; rfl
  rw [tkE, e]; rfl
theorem tkE_k {l : List Tk} {k : Nat} (h : nmP (l.getD k tk0).n) (h1 : knB l k (l.getD k tk0).n = true) : tkE l k = 5 := by
  have e : tkF l k (l.getD k tk0) = 5 := by rw [tkF, h1, unl, decide_eq_true h]; rfl
  rw [tkE, e]; rfl
theorem fst_00 {b : Bool} {x : Int} : fstE [0, 0, unb b 2, x] = if b = true then x else 2 := by
  cases b
  · rfl
  · show (if x = 0 then 0 else x) = x
    split
    · rename_i h; exact h.symm
    · rfl
theorem tksE_eq {lo hi : Int} : tksE lo hi = if isT lo ∧ isT hi then unl (lo ≤ hi) 9 else 2 := by
  rw [tksE]
  by_cases h : isT lo ∧ isT hi
  · rw [if_pos h, unl, decide_eq_true h]
    by_cases h1 : lo ≤ hi
    · rw [unl, decide_eq_true h1]; rfl
    · rw [unl, decide_eq_false h1]; rfl
  · rw [if_neg h, unl, decide_eq_false h]; rfl
theorem tkE_g {l : List Tk} {k : Nat} (h : nmP (l.getD k tk0).n) (h1 : knB l k (l.getD k tk0).n = false) : tkF l k (l.getD k tk0) = if rgP (l.getD k tk0) then unl ((l.getD k tk0).lo ≤ (l.getD k tk0).hi) 9 else 2 := by
  rw [tkF, h1, unl, decide_eq_true h]
  generalize l.getD k tk0 = t
  show fstE [0, 0, unb _ 2, _] = _
  rw [fst_00, tksE_eq]
  by_cases h2 : 0 ≤ t.p ∧ t.p ≤ 4
  · rcases ho : oddI [t.d, t.w, t.o, t.v] with _ | _
    · have h3 := odd4.1 ho
      rw [decide_eq_true h2, if_pos (show (true && !false) = true from rfl)]
      by_cases h4 : isT t.lo ∧ isT t.hi
      · rw [if_pos h4, if_pos ⟨⟨h2, h3⟩, h4⟩]
      · rw [if_neg h4, if_neg (fun hh => h4 hh.2)]
    · rw [if_neg (by simp), if_neg]
      rintro ⟨⟨_, h3⟩, _⟩
      rw [odd4.2 h3] at ho; cases ho
  · rw [decide_eq_false h2, if_neg (by simp), if_neg (fun hh => h2 hh.1.1)]
theorem tkE_r {l : List Tk} {k : Nat} (h : nmP (l.getD k tk0).n) (h1 : knB l k (l.getD k tk0).n = false) (h2 : ¬ rgP (l.getD k tk0)) : tkE l k = 2 := by
  have e := tkE_g h h1
  rw [if_neg h2] at e
  rw [tkE, e]; rfl
theorem tkE_o {l : List Tk} {k : Nat} (h : nmP (l.getD k tk0).n) (h1 : knB l k (l.getD k tk0).n = false) (h2 : rgP (l.getD k tk0)) (h3 : ¬ (l.getD k tk0).lo ≤ (l.getD k tk0).hi) : tkE l k = 9 := by
  have e := tkE_g h h1
  rw [if_pos h2, unl, decide_eq_false h3] at e
  rw [tkE, e]; rfl
theorem tkE_a {l : List Tk} {k : Nat} (h : nmP (l.getD k tk0).n) (h1 : knB l k (l.getD k tk0).n = false) (h2 : rgP (l.getD k tk0)) (h3 : (l.getD k tk0).lo ≤ (l.getD k tk0).hi) : tkE l k = (ascE (l.getD k tk0).a k).2 := by
  have e := tkE_g h h1
  rw [if_pos h2, unl, decide_eq_true h3] at e
  rw [tkE, e]; rfl
theorem ascN_6 {l : List Int} {b : Int} {j : Nat} (h : ¬ (0 ≤ l.getD j 0 ∧ l.getD j 0 ≤ b - 1)) : ascN l b j = 6 := by
  rw [ascN, unl, decide_eq_false h]; rfl
theorem ascN_9 {l : List Int} {b : Int} {j : Nat} (h : 0 ≤ l.getD j 0 ∧ l.getD j 0 ≤ b - 1) (hj : 0 < j) (h1 : l.getD j 0 ≤ l.getD (j - 1) 0) : ascN l b j = 9 := by
  rw [ascN, unl, decide_eq_true h, lastI, if_neg (by omega), unl, decide_eq_false (by omega)]; rfl
theorem ascN_0 {l : List Int} {b : Int} {j : Nat} (h : 0 ≤ l.getD j 0 ∧ l.getD j 0 ≤ b - 1) (h1 : 0 < j → l.getD (j - 1) 0 < l.getD j 0) : ascN l b j = 0 := by
  rw [ascN, fst2, unl0 (by decide), unl0 (by decide)]
  refine ⟨h, ?_⟩
  rw [lastI]
  split
  · omega
  · exact h1 (by omega)
theorem C64 {l : List Tk} : (l.length ≤ 1000000 ∧ TkSm l) → PFD Try.prog 64 [.c (tks l)] (.tup [vi .i64 (tsE l).1, vi .i64 (tsE l).2]) := fun ⟨hl, hs⟩ => by
  obtain ⟨q, hq⟩ : ∃ q, q = tsE l := ⟨_, rfl⟩
  rw [← hq]
  rw [tsE] at hq
  refine pi2 fn64 ?_
  (repeat' first | (refine Owe.same ?_; first | refine Owe.o ?_ | refine Owe.mk ?_ ?_) | (refine Fork.same ?_; (first | refine fkD ?_ ?_ | refine fkN ?_ ?_ | refine fkM ?_ ?_) <;> intro h) | refine MvQ.stay ?_)
  · rw [if_pos (by omega)] at hq; subst hq; (refine rqK rfl ?_; (repeat' first | exact rfl | (refine qS ?_; constructor)))
  · rw [if_neg (by omega)] at hq
    clear h
    have hret : ∀ {k}, k < l.length → (∀ i, i < k → tkE l i = 0) → ∀ {e}, tkE l k = e → ¬ e = 0 → q = ((k : Int), e) := fun hk h1 e he h2 => by
      have h3 := eachN_e hk h1 (by rw [he]; exact h2)
      rw [h3, he] at hq; exact hq
    refine Sat.lp0 (fun k : Nat => [(4, vi .i64 k), (0, .c (tks l))]) (fun k => k ≤ l.length ∧ ∀ i, i < k → tkE l i = 0) (fun k => l.length - k) 0 ⟨Nat.zero_le _, fun i hi => by omega⟩ (by ((first | refine qen ?_ | refine qvs ?_ | refine qeq ?_ | refine qst ?_ | refine qv ?_ | refine qc ?_ | refine qe ?_ | refine qcs ?_ | skip); (repeat' first | exact rfl | (refine qS ?_; constructor)))) ?_
    intro k hk
    refine Fork.dec (fun hlt => ?_) (fun hlt => ?_)
    · have hlt : k < l.length := by omega
      obtain ⟨s1, s2⟩ := hs k hlt
      have hret := fun {e} => @hret k hlt hk.2 e
      have c1 := C102 (s := (l.getD k tk0).n) s1
      (repeat' first | (refine Owe.same ?_; first | refine Owe.o ?_ | refine Owe.mk ?_ ?_) | (refine Fork.same ?_; (first | refine fkD ?_ ?_ | refine fkN ?_ ?_ | refine fkM ?_ ?_) <;> intro h) | ((first | refine OpsL.same ?_ | refine OpsDL.same ?_); first | refine pK c1 rfl rfl ?_) | refine MvQ.stay ?_)
      · have hx := hret (tkE_n (by simpa using h)) (by decide)
        subst hx; (refine rqK rfl ?_; (repeat' first | exact rfl | (refine qS ?_; constructor)))
      · have hn : nmP (l.getD k tk0).n := by simpa using h
        clear h
        refine Sat.lp (fun j : Nat => ⟨[(6, vi .i64 j), (5, .c (.bp 0 0)), (4, vi .i64 k), (0, .c (tks l))], [(0, .box (tkC (l.getD k tk0)))], 1⟩) (fun j => j ≤ k ∧ ∀ i, i < j → decide ((l.getD i tk0).n.data.toList = (l.getD k tk0).n.data.toList) = false) (fun j => k - j) 0 [0] ⟨Nat.zero_le _, fun i hi => by omega⟩ ?_ ?_
        · (refine qis ?_ ?_ <;> (repeat' first | exact rfl | (refine qS ?_; constructor)))
        · intro j hj
          refine Fork.dec (fun hlj => ?_) (fun hlj => ?_)
          · have hlj : j < k := by omega
            (repeat' first | (refine Owe.same ?_; first | refine Owe.o ?_ | refine Owe.mk ?_ ?_) | (refine Fork.same ?_; (first | refine fkD ?_ ?_ | refine fkN ?_ ?_ | refine fkM ?_ ?_) <;> intro h) | refine MvQ.stay ?_)
            · have h : (l.getD j tk0).n.data.toList = (l.getD k tk0).n.data.toList := h
              have hx := hret (tkE_k hn (anyN_t hlj (decide_eq_true h))) (by decide)
              subst hx; (refine rqK rfl ?_; (repeat' first | exact rfl | (refine qS ?_; constructor)))
            · have h : ¬ (l.getD j tk0).n.data.toList = (l.getD k tk0).n.data.toList := h
              refine again (j + 1) [0] ⟨hlj, succ_all hj.2 (decide_eq_false h)⟩ (by omega) ?_
              (refine qis ?_ ?_ <;> (repeat' first | exact rfl | (refine qS ?_; constructor)))
          · have : j = k := by omega
            subst this
            have hkn := anyN_f.2 hj.2
            have hr := tkE_r hn hkn
            have ho := tkE_o hn hkn
            have ha := tkE_a hn hkn
            (repeat' first | (refine Owe.same ?_; first | refine Owe.o ?_ | refine Owe.mk ?_ ?_) | (refine Fork.same ?_; (first | refine fkD ?_ ?_ | refine fkN ?_ ?_ | refine fkM ?_ ?_) <;> intro h) | ((first | refine OpsL.same ?_ | refine OpsDL.same ?_); first | refine pK C19 rfl rfl ?_ | refine pK C65 rfl rfl ?_ | refine pK C66 rfl rfl ?_) | refine MvQ.stay ?_)
            all_goals try (
              have hx := hret (hr (fun hh => by
                obtain ⟨⟨g1, g2, g3, g4, g5⟩, g6, g7⟩ := hh
                first | exact h g1 | exact h g2 | exact h g3 | exact h g4 | exact h g5 | exact h g6 | exact h g7)) (by decide)
              subst hx
              (refine rqK rfl ?_; (repeat' first | exact rfl | (refine qS ?_; constructor)))
              done)
            all_goals
              obtain ⟨g7, g6, g5, g4, g3, g2, g1⟩ := (show _ ∧ _ ∧ _ ∧ _ ∧ _ ∧ _ ∧ _ from ⟨by assumption, by assumption, by assumption, by assumption, by assumption, by assumption, by assumption⟩ : isT (l.getD j tk0).hi ∧ isT (l.getD j tk0).lo ∧ isN (l.getD j tk0).v ∧ isN (l.getD j tk0).o ∧ isN (l.getD j tk0).w ∧ isN (l.getD j tk0).d ∧ (0 ≤ (l.getD j tk0).p ∧ (l.getD j tk0).p ≤ 4))
              have hg : rgP (l.getD j tk0) := ⟨⟨g1, g2, g3, g4, g5⟩, g6, g7⟩
            · have h : (l.getD j tk0).hi < (l.getD j tk0).lo := h
              have hx := hret (ho hg (by omega)) (by decide)
              subst hx
              (refine rqK rfl ?_; (repeat' first | exact rfl | (refine qS ?_; constructor)))
            · have h : ¬ (l.getD j tk0).hi < (l.getD j tk0).lo := h
              have ha := ha hg (by omega)
              clear hr ho hj hkn hlj
              refine Sat.lp (fun m : Nat => ⟨[(7, vi .i64 m), (5, .c (.bp 0 0)), (4, vi .i64 j), (0, .c (tks l))], [(0, .box (tkC (l.getD j tk0)))], 1⟩) (fun m => m ≤ (l.getD j tk0).a.length ∧ ∀ i, i < m → ascN (l.getD j tk0).a j i = 0) (fun m => (l.getD j tk0).a.length - m) 0 [0] ⟨Nat.zero_le _, fun i hi => by omega⟩ ?_ ?_
              · (refine qis ?_ ?_ <;> (repeat' first | exact rfl | (refine qS ?_; constructor)))
              · intro m hm
                refine Fork.dec (fun hlm => ?_) (fun hlm => ?_)
                · have hlm : m < (l.getD j tk0).a.length := by omega
                  have hr : ∀ {e}, ascN (l.getD j tk0).a j m = e → ¬ e = 0 → q = ((j : Int), e) := fun he h2 => by
                    refine hret ?_ h2
                    rw [ha, ascE, eachN_e hlm hm.2 (by rw [he]; exact h2)]
                    exact he
                  (repeat' first | (refine Owe.same ?_; first | refine Owe.o ?_ | refine Owe.mk ?_ ?_) | (refine Fork.same ?_; (first | refine fkD ?_ ?_ | refine fkN ?_ ?_ | refine fkM ?_ ?_) <;> intro h) | ((first | refine OpsL.same ?_ | refine OpsDL.same ?_); first | refine pK C19 rfl rfl ?_) | refine MvQ.stay ?_)
                  · have hx := hr (ascN_6 h) (by decide)
                    subst hx
                    (refine rqK rfl ?_; (repeat' first | exact rfl | (refine qS ?_; constructor)))
                  · have hx := hr (ascN_9 ‹_› (by omega) (by rw [show m - 1 = ((m : Int) - 1).toNat by omega]; exact h)) (by decide)
                    subst hx
                    (refine rqK rfl ?_; (repeat' first | exact rfl | (refine qS ?_; constructor)))
                  · have h0 := ascN_0 (l := (l.getD j tk0).a) (b := j) (j := m) ‹_› (fun _ => by
                      have h : ¬ (l.getD j tk0).a.getD m 0 ≤ (l.getD j tk0).a.getD ((m : Int) - 1).toNat 0 := h
                      rw [show m - 1 = ((m : Int) - 1).toNat by omega]; omega)
                    refine again (m + 1) [0] ⟨hlm, succ_all hm.2 h0⟩ (by omega) ?_
                    (refine qis ?_ ?_ <;> (repeat' first | exact rfl | (refine qS ?_; constructor)))
                  · have h0 := ascN_0 (l := (l.getD j tk0).a) (b := j) (j := m) ‹_› (fun hh => by omega)
                    refine again (m + 1) [0] ⟨hlm, succ_all hm.2 h0⟩ (by omega) ?_
                    (refine qis ?_ ?_ <;> (repeat' first | exact rfl | (refine qS ?_; constructor)))
                · have : m = (l.getD j tk0).a.length := by omega
                  subst this
                  rw [ascE, eachN_z hm.2] at ha
                  (repeat' first | (refine Owe.same ?_; first | refine Owe.o ?_ | refine Owe.mk ?_ ?_) | (refine Fork.same ?_; (first | refine fkD ?_ ?_ | refine fkN ?_ ?_ | refine fkM ?_ ?_) <;> intro h) | refine MvQ.stay ?_)
                  exact again0 (j + 1) ⟨hlt, succ_all hk.2 ha⟩ (by omega) (by ((first | refine qen ?_ | refine qvs ?_ | refine qeq ?_ | refine qst ?_ | refine qv ?_ | refine qc ?_ | refine qe ?_ | refine qcs ?_ | skip); (repeat' first | exact rfl | (refine qS ?_; constructor))))
    · have : k = l.length := by omega
      subst this
      rw [eachN_z hk.2] at hq
      subst hq
      (repeat' first | (refine Owe.same ?_; first | refine Owe.o ?_ | refine Owe.mk ?_ ?_) | (refine Fork.same ?_; (first | refine fkD ?_ ?_ | refine fkN ?_ ?_ | refine fkM ?_ ?_) <;> intro h) | refine MvQ.stay ?_)
      (refine rqK rfl ?_; (repeat' first | exact rfl | (refine qS ?_; constructor)))
end Go.Pw

set_option linter.unusedSimpArgs false
set_option linter.unusedVariables false
set_option maxHeartbeats 4000000
namespace Go.Pw
set_option maxRecDepth 2000
open Go Go.Proofs A1 A2 A3 A4
theorem hm_1 {s : Si} {i : Nat} (h : ¬ isN (s.ho.getD i 0)) : hmN s i = 2 := by
  rw [hmN, unl, decide_eq_false h]; rfl
theorem hm_2 {s : Si} {i : Nat} (h : isN (s.ho.getD i 0)) (h1 : ¬ ((s.tr.getD i []).length : Int) = s.ho.length) : hmN s i = 10 := by
  rw [hmN, unl, decide_eq_true h, unl, decide_eq_false h1]; rfl
theorem hm_3 {s : Si} {i j : Nat} (h : isN (s.ho.getD i 0)) (h1 : ((s.tr.getD i []).length : Int) = s.ho.length) (hj : j < s.ho.length) (h2 : ¬ isN ((s.tr.getD i []).getD j 0) ∨ (i = j ∧ (s.tr.getD i []).getD j 0 ≠ 0)) : hmN s i = 2 := by
  have hb : hmB s i = false := by
    rcases h2 with h2 | ⟨rfl, h2⟩
    · have : oddI (s.tr.getD i []) = true := List.any_eq_true.2 ⟨_, getD_mem 0 (show j < (s.tr.getD i []).length by omega), by rw [decide_eq_false h2]; rfl⟩
      rw [hmB, this]; rfl
    · rw [hmB, decide_eq_false (by omega), decide_eq_false h2]; simp
  rw [hmN, hb, unl, decide_eq_true h, unl, decide_eq_true h1]; rfl
theorem hm_0 {s : Si} {i : Nat} (h : isN (s.ho.getD i 0)) (h1 : ((s.tr.getD i []).length : Int) = s.ho.length) (h2 : ∀ j, j < s.ho.length → isN ((s.tr.getD i []).getD j 0) ∧ (i = j → (s.tr.getD i []).getD j 0 = 0)) (hi : i < s.ho.length) : hmN s i = 0 := by
  have hb : hmB s i = true := by
    have : oddI (s.tr.getD i []) = false := List.any_eq_false.2 fun x hx => by
      obtain ⟨j, hj, rfl⟩ := List.getElem_of_mem hx
      have := (h2 j (by omega)).1
      rw [List.getD_eq_getElem?_getD, List.getElem?_eq_getElem hj] at this
      simpa using this
    rw [hmB, this, decide_eq_true ((h2 i hi).2 rfl)]; simp
  rw [hmN, hb, unl, decide_eq_true h, unl, decide_eq_true h1]; rfl
theorem ti_2 {s : Si} {i : Nat} (h : ¬ ((isT (s.ti.getD i (0, 0, 0)).1 ∧ isT (s.ti.getD i (0, 0, 0)).2.1) ∧ isN (s.ti.getD i (0, 0, 0)).2.2)) : tiN s i = 2 := by
  rw [tiN, tiF, unl, decide_eq_false h]; rfl
theorem ti_9 {s : Si} {i : Nat} (h : (isT (s.ti.getD i (0, 0, 0)).1 ∧ isT (s.ti.getD i (0, 0, 0)).2.1) ∧ isN (s.ti.getD i (0, 0, 0)).2.2) (h1 : ¬ ((s.ti.getD i (0, 0, 0)).1 ≤ (s.ti.getD i (0, 0, 0)).2.1 ∧ lastT s i < (s.ti.getD i (0, 0, 0)).1)) : tiN s i = 9 := by
  rw [tiN, tiF, unl, decide_eq_true h, unl, decide_eq_false h1]; rfl
theorem ti_0 {s : Si} {i : Nat} (h : (isT (s.ti.getD i (0, 0, 0)).1 ∧ isT (s.ti.getD i (0, 0, 0)).2.1) ∧ isN (s.ti.getD i (0, 0, 0)).2.2) (h1 : (s.ti.getD i (0, 0, 0)).1 ≤ (s.ti.getD i (0, 0, 0)).2.1 ∧ lastT s i < (s.ti.getD i (0, 0, 0)).1) : tiN s i = 0 := by
  rw [tiN, tiF, unl, decide_eq_true h, unl, decide_eq_true h1]; rfl
theorem lastT_of {s : Si} {i : Nat} {x : Int} (h : 0 ≤ x) : lastT s i < x ↔ ¬ (0 < i ∧ x ≤ (s.ti.getD (i - 1) (0, 0, 0)).2.1) := by
  rw [lastT]
  split <;> omega
theorem C16 {s : Si} : SiSm s → PFD Try.prog 16 [siv s] (.tup [vi .i64 (siE s).1, vi .i64 (siE s).2]) := fun hs => by
  obtain ⟨stk, st, str, sr, sho, sti⟩ := hs
  obtain ⟨q, hq⟩ : ∃ q, q = siE s := ⟨_, rfl⟩
  rw [← hq]
  rw [siE] at hq
  have c1 := C64 (l := s.tk) ⟨stk, st⟩
  refine pi2 fn16 ?_
  (repeat' first | (refine Owe.same ?_; first | refine Owe.o ?_ | refine Owe.mk ?_ ?_) | (refine Fork.same ?_; (first | refine fkD ?_ ?_ | refine fkN ?_ ?_ | refine fkM ?_ ?_) <;> intro h) | ((first | refine OpsL.same ?_ | refine OpsDL.same ?_); first | refine pK c1 rfl rfl ?_) | refine MvQ.stay ?_)
  · rw [if_neg h] at hq; subst hq; (refine rqK rfl ?_; (repeat' first | exact rfl | (refine qS ?_; constructor)))
  · rename_i h0
    have e : hoE s = 10 := by rw [hoE, unl, decide_eq_false (by omega)]; rfl
    rw [if_pos h0, if_neg (by rw [e]; decide), e] at hq
    subst hq; (refine rqK rfl ?_; (repeat' first | exact rfl | (refine qS ?_; constructor)))
  · rename_i h0 h1
    have e : hoE s = 8 := by rw [hoE, unl, decide_eq_true (show (s.ho.length : Int) > 0 by omega), unl, decide_eq_false (by omega)]; rfl
    rw [if_pos h0, if_neg (by rw [e]; decide), e] at hq
    subst hq; (refine rqK rfl ?_; (repeat' first | exact rfl | (refine qS ?_; constructor)))
  · rename_i h0 h1 h2
    have e : hoE s = 10 := by rw [hoE, unl, decide_eq_true (show (s.ho.length : Int) > 0 by omega), unl, decide_eq_true (by omega), unl, decide_eq_false (by omega)]; rfl
    rw [if_pos h0, if_neg (by rw [e]; decide), e] at hq
    subst hq; (refine rqK rfl ?_; (repeat' first | exact rfl | (refine qS ?_; constructor)))
  · rename_i h0 h1 h2
    have e : hoE s = 0 := by rw [hoE, unl, decide_eq_true (show (s.ho.length : Int) > 0 by omega), unl, decide_eq_true (by omega), unl, decide_eq_true (by omega)]; rfl
    rw [if_pos h0, if_pos e] at hq
    have hret : ∀ {k}, k < s.ho.length → (∀ i, i < k → hmN s i = 0) → ∀ {e}, hmN s k = e → ¬ e = 0 → q = ((k : Int), e) := fun hk h1 e he h2 => by
      have e := eachN_e hk h1 (by rw [he]; exact h2)
      rw [if_neg (by rw [e, he]; exact h2), e, he] at hq; exact hq
    refine Sat.lp0 (fun k : Nat => [(6, vi .i64 k), (1, .c (.rp (siD s)))]) (fun k => k ≤ s.ho.length ∧ ∀ i, i < k → hmN s i = 0) (fun k => s.ho.length - k) 0 ⟨Nat.zero_le _, fun i hi => by omega⟩ (by ((first | refine qen ?_ | refine qvs ?_ | refine qeq ?_ | refine qst ?_ | refine qv ?_ | refine qc ?_ | refine qe ?_ | refine qcs ?_ | skip); (repeat' first | exact rfl | (refine qS ?_; constructor)))) ?_
    intro k hk
    refine Fork.dec (fun hlt => ?_) (fun hlt => ?_)
    · have hlt : k < s.ho.length := by omega
      have hret := fun {e} => @hret k hlt hk.2 e
      (repeat' first | (refine Owe.same ?_; first | refine Owe.o ?_ | refine Owe.mk ?_ ?_) | (refine Fork.same ?_; (first | refine fkD ?_ ?_ | refine fkN ?_ ?_ | refine fkM ?_ ?_) <;> intro h) | ((first | refine OpsL.same ?_ | refine OpsDL.same ?_); first | refine pK C65 rfl rfl ?_) | refine MvQ.stay ?_)
      · have h : ¬ isN (s.ho.getD k 0) := by simpa using h
        have hx := hret (hm_1 h) (by decide)
        subst hx; (refine rqK rfl ?_; (repeat' first | exact rfl | (refine qS ?_; constructor)))
      · rename_i h3
        have h3 : isN (s.ho.getD k 0) := by simpa using h3
        simp only [Int.toNat_natCast] at h
        have hx := hret (hm_2 h3 h) (by decide)
        subst hx; (refine rqK rfl ?_; (repeat' first | exact rfl | (refine qS ?_; constructor)))
      · rename_i h3
        have h3 : isN (s.ho.getD k 0) := by simpa using h3
        simp only [Int.toNat_natCast] at h
        have h4 : ((s.tr.getD k []).length : Int) = s.ho.length := by simpa using h
        clear h
        refine Sat.lp0 (fun j : Nat => [(7, vi .i64 j), (6, vi .i64 k), (1, .c (.rp (siD s)))]) (fun j => j ≤ s.ho.length ∧ ∀ i, i < j → isN ((s.tr.getD k []).getD i 0) ∧ (k = i → (s.tr.getD k []).getD i 0 = 0)) (fun j => s.ho.length - j) 0 ⟨Nat.zero_le _, fun i hi => by omega⟩ (by ((first | refine qen ?_ | refine qvs ?_ | refine qeq ?_ | refine qst ?_ | refine qv ?_ | refine qc ?_ | refine qe ?_ | refine qcs ?_ | skip); (repeat' first | exact rfl | (refine qS ?_; constructor)))) ?_
        intro j hj
        refine Fork.dec (fun hlj => ?_) (fun hlj => ?_)
        · have hlj : j < s.ho.length := by omega
          have hr := fun h => hret (hm_3 h3 h4 hlj h) (by decide)
          (repeat' first | (refine Owe.same ?_; first | refine Owe.o ?_ | refine Owe.mk ?_ ?_) | (refine Fork.same ?_; (first | refine fkD ?_ ?_ | refine fkN ?_ ?_ | refine fkM ?_ ?_) <;> intro h) | ((first | refine OpsL.same ?_ | refine OpsDL.same ?_); first | refine pK C65 rfl rfl ?_) | refine MvQ.stay ?_)
          · have hx := hr (.inl h)
            subst hx
            (refine rqK rfl ?_; (repeat' first | exact rfl | (refine qS ?_; constructor)))
          · rename_i g1 g2
            have hx := hr (.inr ⟨by omega, h⟩)
            subst hx
            (refine rqK rfl ?_; (repeat' first | exact rfl | (refine qS ?_; constructor)))
          · rename_i g1 g2
            exact again0 (j + 1) ⟨hlj, succ_all hj.2 ⟨g1, fun _ => h⟩⟩ (by omega) (by ((first | refine qen ?_ | refine qvs ?_ | refine qeq ?_ | refine qst ?_ | refine qv ?_ | refine qc ?_ | refine qe ?_ | refine qcs ?_ | skip); (repeat' first | exact rfl | (refine qS ?_; constructor))))
          · rename_i g1
            exact again0 (j + 1) ⟨hlj, succ_all hj.2 ⟨g1, fun e => absurd (show (k : Int) = j by omega) h⟩⟩ (by omega) (by ((first | refine qen ?_ | refine qvs ?_ | refine qeq ?_ | refine qst ?_ | refine qv ?_ | refine qc ?_ | refine qe ?_ | refine qcs ?_ | skip); (repeat' first | exact rfl | (refine qS ?_; constructor))))
        · have : j = s.ho.length := by omega
          subst this
          (repeat' first | (refine Owe.same ?_; first | refine Owe.o ?_ | refine Owe.mk ?_ ?_) | (refine Fork.same ?_; (first | refine fkD ?_ ?_ | refine fkN ?_ ?_ | refine fkM ?_ ?_) <;> intro h) | refine MvQ.stay ?_)
          exact again0 (k + 1) ⟨hlt, succ_all hk.2 (hm_0 h3 h4 hj.2 hlt)⟩ (by omega) (by ((first | refine qen ?_ | refine qvs ?_ | refine qeq ?_ | refine qst ?_ | refine qv ?_ | refine qc ?_ | refine qe ?_ | refine qcs ?_ | skip); (repeat' first | exact rfl | (refine qS ?_; constructor))))
    · have : k = s.ho.length := by omega
      subst this
      rw [if_pos (eachN_ok.2 hk.2)] at hq
      clear hret hk hlt
      have hret : ∀ {k}, k < s.tk.length → (∀ i, i < k → plN s i = 0) → ∀ {e}, plN s k = e → ¬ e = 0 → q = ((k : Int), e) := fun hk h1 e he h2 => by
        have e := eachN_e hk h1 (by rw [he]; exact h2)
        rw [if_neg (by rw [e, he]; exact h2), e, he] at hq; exact hq
      (repeat' first | (refine Owe.same ?_; first | refine Owe.o ?_ | refine Owe.mk ?_ ?_) | (refine Fork.same ?_; (first | refine fkD ?_ ?_ | refine fkN ?_ ?_ | refine fkM ?_ ?_) <;> intro h) | refine MvQ.stay ?_)
      refine Sat.lp0 (fun k : Nat => [(8, vi .i64 k), (1, .c (.rp (siD s)))]) (fun k => k ≤ s.tk.length ∧ ∀ i, i < k → plN s i = 0) (fun k => s.tk.length - k) 0 ⟨Nat.zero_le _, fun i hi => by omega⟩ (by ((first | refine qen ?_ | refine qvs ?_ | refine qeq ?_ | refine qst ?_ | refine qv ?_ | refine qc ?_ | refine qe ?_ | refine qcs ?_ | skip); (repeat' first | exact rfl | (refine qS ?_; constructor)))) ?_
      intro k hk
      refine Fork.dec (fun hlt => ?_) (fun hlt => ?_)
      · have hlt : k < s.tk.length := by omega
        (repeat' first | (refine Owe.same ?_; first | refine Owe.o ?_ | refine Owe.mk ?_ ?_) | (refine Fork.same ?_; (first | refine fkD ?_ ?_ | refine fkN ?_ ?_ | refine fkM ?_ ?_) <;> intro h) | refine MvQ.stay ?_)
        · have h : (s.ho.length : Int) ≤ (s.tk.getD k tk0).p := h
          have hx := hret hlt hk.2 (e := 6) (by rw [plN, unl, decide_eq_false (by omega)]; rfl) (by decide)
          subst hx
          (refine rqK rfl ?_; (repeat' first | exact rfl | (refine qS ?_; constructor)))
        · have h : ¬ (s.ho.length : Int) ≤ (s.tk.getD k tk0).p := h
          exact again0 (k + 1) ⟨hlt, succ_all hk.2 (by rw [plN, unl, decide_eq_true (by omega)]; rfl)⟩ (by omega) (by ((first | refine qen ?_ | refine qvs ?_ | refine qeq ?_ | refine qst ?_ | refine qv ?_ | refine qc ?_ | refine qe ?_ | refine qcs ?_ | skip); (repeat' first | exact rfl | (refine qS ?_; constructor))))
      · have : k = s.tk.length := by omega
        subst this
        rw [if_pos (eachN_ok.2 hk.2)] at hq
        clear hret hk hlt
        (repeat' first | (refine Owe.same ?_; first | refine Owe.o ?_ | refine Owe.mk ?_ ?_) | (refine Fork.same ?_; (first | refine fkD ?_ ?_ | refine fkN ?_ ?_ | refine fkM ?_ ?_) <;> intro h) | refine MvQ.stay ?_)
        · rw [if_pos h] at hq; subst hq; (refine rqK rfl ?_; (repeat' first | exact rfl | (refine qS ?_; constructor)))
        · rw [if_neg h] at hq
          have hret : ∀ {k}, k < s.ti.length → (∀ i, i < k → tiN s i = 0) → ∀ {e}, tiN s k = e → ¬ e = 0 → q = ((k : Int), e) := fun hk h1 e he h2 => by
            have e := eachN_e hk h1 (by rw [he]; exact h2)
            rw [if_neg (by rw [e, he]; exact h2), e, he] at hq; exact hq
          refine Sat.lp0 (fun k : Nat => [(9, vi .i64 k), (1, .c (.rp (siD s)))]) (fun k => k ≤ s.ti.length ∧ ∀ i, i < k → tiN s i = 0) (fun k => s.ti.length - k) 0 ⟨Nat.zero_le _, fun i hi => by omega⟩ (by ((first | refine qen ?_ | refine qvs ?_ | refine qeq ?_ | refine qst ?_ | refine qv ?_ | refine qc ?_ | refine qe ?_ | refine qcs ?_ | skip); (repeat' first | exact rfl | (refine qS ?_; constructor)))) ?_
          intro k hk
          refine Fork.dec (fun hlt => ?_) (fun hlt => ?_)
          · have hlt : k < s.ti.length := by omega
            have hret := fun {e} => @hret k hlt hk.2 e
            have h2 := fun h => hret (ti_2 h) (by decide)
            have h9 := fun h h' => hret (ti_9 h h') (by decide)
            have h0 := fun h h' => ti_0 (s := s) (i := k) h h'
            have hla := fun h => lastT_of (s := s) (i := k) (x := (s.ti.getD k (0, 0, 0)).1) h
            (repeat' first | (refine Owe.same ?_; first | refine Owe.o ?_ | refine Owe.mk ?_ ?_) | (refine Fork.same ?_; (first | refine fkD ?_ ?_ | refine fkN ?_ ?_ | refine fkM ?_ ?_) <;> intro h) | ((first | refine OpsL.same ?_ | refine OpsDL.same ?_); first | refine pK C66 rfl rfl ?_ | refine pK C65 rfl rfl ?_) | refine MvQ.stay ?_)
            · have hx := h2 (fun hh => h hh.1.1)
              subst hx
              (refine rqK rfl ?_; (repeat' first | exact rfl | (refine qS ?_; constructor)))
            · have hx := h2 (fun hh => h hh.1.2)
              subst hx
              (refine rqK rfl ?_; (repeat' first | exact rfl | (refine qS ?_; constructor)))
            · have hx := h2 (fun hh => h hh.2)
              subst hx
              (refine rqK rfl ?_; (repeat' first | exact rfl | (refine qS ?_; constructor)))
            · have h : (s.ti.getD k (0, 0, 0)).2.1 < (s.ti.getD k (0, 0, 0)).1 := h
              have hx := h9 ⟨⟨‹_›, ‹_›⟩, ‹_›⟩ (fun hh => by omega)
              subst hx
              (refine rqK rfl ?_; (repeat' first | exact rfl | (refine qS ?_; constructor)))
            · rename_i g1 g2 g3 g4 g5
              have h : (s.ti.getD k (0, 0, 0)).1 ≤ (s.ti.getD ((k : Int) - 1).toNat (0, 0, 0)).2.1 := h
              rw [show ((k : Int) - 1).toNat = k - 1 by omega] at h
              have hx := h9 ⟨⟨g1, g2⟩, g3⟩ (fun hh => (hla g1.1).1 hh.2 ⟨by omega, h⟩)
              subst hx
              (refine rqK rfl ?_; (repeat' first | exact rfl | (refine qS ?_; constructor)))
            · rename_i g1 g2 g3 g4 g5
              have h : ¬ (s.ti.getD k (0, 0, 0)).1 ≤ (s.ti.getD ((k : Int) - 1).toNat (0, 0, 0)).2.1 := h
              have g4 : ¬ (s.ti.getD k (0, 0, 0)).2.1 < (s.ti.getD k (0, 0, 0)).1 := g4
              rw [show ((k : Int) - 1).toNat = k - 1 by omega] at h
              exact again0 (k + 1) ⟨hlt, succ_all hk.2 (h0 ⟨⟨g1, g2⟩, g3⟩ ⟨by omega, (hla g1.1).2 (fun hh => h hh.2)⟩)⟩ (by omega) (by ((first | refine qen ?_ | refine qvs ?_ | refine qeq ?_ | refine qst ?_ | refine qv ?_ | refine qc ?_ | refine qe ?_ | refine qcs ?_ | skip); (repeat' first | exact rfl | (refine qS ?_; constructor))))
            · rename_i g1 g2 g3 g4
              have g4 : ¬ (s.ti.getD k (0, 0, 0)).2.1 < (s.ti.getD k (0, 0, 0)).1 := g4
              exact again0 (k + 1) ⟨hlt, succ_all hk.2 (h0 ⟨⟨g1, g2⟩, g3⟩ ⟨by omega, (hla g1.1).2 (fun hh => by omega)⟩)⟩ (by omega) (by ((first | refine qen ?_ | refine qvs ?_ | refine qeq ?_ | refine qst ?_ | refine qv ?_ | refine qc ?_ | refine qe ?_ | refine qcs ?_ | skip); (repeat' first | exact rfl | (refine qS ?_; constructor))))
          · have : k = s.ti.length := by omega
            subst this
            rw [if_pos (eachN_ok.2 hk.2)] at hq
            have hf : ¬ (((isN s.idle ∧ isN s.swim) ∧ isN s.res) ∧ isT s.fin) → q = (0, 2) := fun h => by rw [hq, enE, unl, decide_eq_false h]; rfl
            have ht : (((isN s.idle ∧ isN s.swim) ∧ isN s.res) ∧ isT s.fin) → q = (0, 0) := fun h => by rw [hq, enE, unl, decide_eq_true h]; rfl
            clear hq
            (repeat' first | (refine Owe.same ?_; first | refine Owe.o ?_ | refine Owe.mk ?_ ?_) | (refine Fork.same ?_; (first | refine fkD ?_ ?_ | refine fkN ?_ ?_ | refine fkM ?_ ?_) <;> intro h) | ((first | refine OpsL.same ?_ | refine OpsDL.same ?_); first | refine pK C66 rfl rfl ?_ | refine pK C65 rfl rfl ?_) | refine MvQ.stay ?_)
            · have hx := hf (fun hh => h hh.1.1.1)
              subst hx
              (refine rqK rfl ?_; (repeat' first | exact rfl | (refine qS ?_; constructor)))
            · have hx := hf (fun hh => h hh.1.1.2)
              subst hx
              (refine rqK rfl ?_; (repeat' first | exact rfl | (refine qS ?_; constructor)))
            · have hx := hf (fun hh => h hh.1.2)
              subst hx
              (refine rqK rfl ?_; (repeat' first | exact rfl | (refine qS ?_; constructor)))
            · have hx := hf (fun hh => h hh.2)
              subst hx
              (refine rqK rfl ?_; (repeat' first | exact rfl | (refine qS ?_; constructor)))
            · rename_i g1 g2 g3
              have hx := ht ⟨⟨⟨g1, g2⟩, g3⟩, h⟩
              subst hx
              (refine rqK rfl ?_; (repeat' first | exact rfl | (refine qS ?_; constructor)))
end Go.Pw

set_option linter.unusedVariables false
set_option maxHeartbeats 2000000
set_option maxRecDepth 100000
namespace Go.Pw
open Go Go.Proofs
/-- moonpool/moonpoolref08.CopySite -/
def lc13m : LCode :=
  (.seq (.region [⟨some 1, .boxS (.tmp 0), none⟩, ⟨some 2, .alloc [(.slice none 0 0), (.slice none 0 0), (.slice none 0 0), (.slice none 0 0), (.int .i64 0), (.int .i64 0), (.int
    .i64 0), (.int .i64 0)], none⟩]) (.seq (.region [⟨some 5, .load true 8 (.tmp 1), none⟩, ⟨some 3, .alloc [(.slice none 0 0), (.slice none 0 0), (.slice none 0 0), (.slice none 0
    0), (.int .i64 0), (.int .i64 0), (.int .i64 0), (.int .i64 0)], none⟩, ⟨none, .store 8 (.tmp 3) (.tmp 5), none⟩]) (.seq (.region [⟨some 6, .fld 0 (.tmp 1), none⟩, ⟨some 7,
    .load false 1 (.tmp 6), none⟩, ⟨some 8, .call (.func 61) [(.tmp 7)], none⟩, ⟨some 9, .fld 0 (.tmp 3), none⟩, ⟨none, .store 1 (.tmp 9) (.tmp 8), none⟩]) (.seq (.region [⟨some 10,
    .fld 1 (.tmp 3), none⟩, ⟨none, .store 1 (.tmp 10) (.const (.slice none 0 0)), none⟩]) (.seq (.seq (.region [⟨some 4, .mv (.const (.int .i64 0)), none⟩]) (.block 0 (.loop (.seq
    (.seq (.region [⟨some 11, .mv (.tmp 4), none⟩, ⟨some 12, .fld 1 (.tmp 1), none⟩, ⟨some 13, .load false 1 (.tmp 12), none⟩, ⟨some 14, .len (.tmp 13), none⟩, ⟨some 15, .bin .lss
    (.tmp 11) (.tmp 14), none⟩]) (.cond (.tmp 15) .skip (.exit 0))) (.seq (.block 1 (.regionD [⟨some 18, .fld 1 (.tmp 3), none⟩, ⟨some 19, .load false 1 (.tmp 18), none⟩, ⟨some 20,
    .fld 1 (.tmp 1), none⟩, ⟨some 21, .load false 1 (.tmp 20), none⟩, ⟨some 22, .mv (.tmp 4), none⟩, ⟨some 23, .idx 1 (.tmp 21) (.tmp 22), none⟩, ⟨some 24, .load false 1 (.tmp 23),
    none⟩, ⟨some 25, .call (.func 29) [(.tmp 24)], none⟩, ⟨some 26, .lit false 24 1 [(.tmp 25)], none⟩, ⟨some 27, .append true 24 1 24 (.tmp 19) (.tmp 26), none⟩, ⟨some 28, .fld 1
    (.tmp 3), none⟩, ⟨none, .store 1 (.tmp 28) (.tmp 27), none⟩] [0, 1, 0, 4, 0, 28, 60, 124, 252, 511, 1023, 2047] [0, 1, 2, 3, 4, 5, 6, 7, 8, 9, 10, 11])) (.region [⟨some 16, .mv
    (.tmp 4), none⟩, ⟨some 17, .bin .add (.tmp 16) (.const (.int .i64 1)), none⟩, ⟨some 4, .mv (.tmp 17), none⟩])))))) (.seq (.region [⟨some 29, .fld 2 (.tmp 1), none⟩, ⟨some 30,
    .load false 1 (.tmp 29), none⟩, ⟨some 31, .call (.func 29) [(.tmp 30)], none⟩, ⟨some 32, .fld 2 (.tmp 3), none⟩, ⟨none, .store 1 (.tmp 32) (.tmp 31), none⟩]) (.seq (.region
    [⟨some 33, .lit false 103 3 [], none⟩, ⟨some 34, .fld 3 (.tmp 1), none⟩, ⟨some 35, .load false 1 (.tmp 34), none⟩, ⟨some 36, .append false 103 3 24 (.tmp 33) (.tmp 35), none⟩,
    ⟨some 37, .fld 3 (.tmp 3), none⟩, ⟨none, .store 1 (.tmp 37) (.tmp 36), none⟩]) (.seq (.region [⟨some 38, .load true 8 (.tmp 3), none⟩, ⟨none, .store 8 (.tmp 2) (.tmp 38),
    none⟩]) .ret))))))))
theorem low13m : lowF Try.prog [1, 27] Try.f13 = some (39, lc13m.strip, [.cell 2 true 8]) := by kernel_rfl
theorem fn13m : FnOk Try.prog 13 39 lc13m [.cell 2 true 8] := ⟨Try.call13, [1, 27], _, Try.func13, low13m⟩
end Go.Pw

set_option linter.unusedSimpArgs false
set_option linter.unusedVariables false
set_option maxHeartbeats 4000000
namespace Go.Pw
set_option maxRecDepth 2000
open Go Go.Proofs A1 A2 A3 A4
theorem C29 {l : List Int} : l.length ≤ 1000000 → PFD Try.prog 29 [.c (ints l)] (.c (ints l)) := fun h => by
  refine pi1 fn29 ?_
  (repeat' first | (refine Owe.same ?_; first | refine Owe.o ?_ | refine Owe.mk ?_ ?_) | (refine Fork.same ?_; (first | refine fkD ?_ ?_ | refine fkN ?_ ?_ | refine fkM ?_ ?_) <;> intro h) | refine MvQ.stay ?_)
  (refine rqK rfl ?_; (repeat' first | exact rfl | (refine qS ?_; constructor)))
theorem C15 {t : St8} : t.d.length ≤ 1000000 → PFD Try.prog 15 [stv t] (stv t) := fun h => by
  have c1 := C29 (l := t.d) h
  refine pi1 fn15 ?_
  (repeat' first | (refine Owe.same ?_; first | refine Owe.o ?_ | refine Owe.mk ?_ ?_) | (refine Fork.same ?_; (first | refine fkD ?_ ?_ | refine fkN ?_ ?_ | refine fkM ?_ ?_) <;> intro h) | ((first | refine OpsL.same ?_ | refine OpsDL.same ?_); first | refine pK c1 rfl rfl ?_) | refine MvQ.stay ?_)
  (refine rqK rfl ?_; (repeat' first | exact rfl | (refine qS ?_; constructor)))
theorem C61 {l : List Tk} : (l.length ≤ 1000000 ∧ TkSm l) → PFD Try.prog 61 [.c (tks l)] (.c (tks l)) := fun ⟨hl, hs⟩ => by
  refine pi1 fn61 ?_
  (repeat' first | (refine Owe.same ?_; first | refine Owe.o ?_ | refine Owe.mk ?_ ?_) | (refine Fork.same ?_; (first | refine fkD ?_ ?_ | refine fkN ?_ ?_ | refine fkM ?_ ?_) <;> intro h) | refine MvQ.stay ?_)
  refine Sat.nilS 3 99 9 (fun i => tkr (([] : List Tk).getD i tk0)) rfl ?_
  refine Sat.lp (fun k : Nat => ⟨[(4, vi .i64 k), (0, .c (tks l)), (3, .c (.ms 0 (l.take k).length))], [(0, rowv 99 9 tkr tk0 (l.take k))], 1⟩) (fun k => k ≤ l.length) (fun k => l.length - k) 0 [0] (Nat.zero_le _) ?_ ?_
  · (refine qis ?_ ?_ <;> (repeat' first | exact rfl | (refine qS ?_; constructor)))
  · intro k hk
    refine Fork.dec (fun hlt => ?_) (fun hlt => ?_)
    · have hlt : k < l.length := by omega
      have c1 := C29 (l := (l.getD k tk0).a) (hs k hlt).2
      have hl1 : (l.take k).length = k := by rw [List.length_take]; omega
      have htk : l.take (k + 1) = l.take k ++ [l.getD k tk0] := by
        rw [List.take_add_one, List.getElem?_eq_getElem hlt, List.getD_eq_getElem?_getD, List.getElem?_eq_getElem hlt]; rfl
      (repeat' first | (refine Owe.same ?_; first | refine Owe.o ?_ | refine Owe.mk ?_ ?_) | (refine Fork.same ?_; (first | refine fkD ?_ ?_ | refine fkN ?_ ?_ | refine fkM ?_ ?_) <;> intro h) | ((first | refine OpsL.same ?_ | refine OpsDL.same ?_); first | refine pK c1 rfl rfl ?_) | refine MvQ.stay ?_)
      refine again (k + 1) [2] hlt (by omega) ?_
      rw [htk]
      (refine qis ?_ ?_ <;> (repeat' first | exact rfl | (refine qS ?_; constructor)))
      · simp
      · exact ⟨l.getD k tk0, rfl, rfl⟩
    · have : k = l.length := by omega
      subst this
      (repeat' first | (refine Owe.same ?_; first | refine Owe.o ?_ | refine Owe.mk ?_ ?_) | (refine Fork.same ?_; (first | refine fkD ?_ ?_ | refine fkN ?_ ?_ | refine fkM ?_ ?_) <;> intro h) | refine MvQ.stay ?_)
      rw [List.take_length]
      refine rqF 0 _ rfl rfl rfl ?_; (repeat' first | exact rfl | (refine qS ?_; constructor))
theorem C13 {s : Si} : SiSm s → PFD Try.prog 13 [siv s] (siv s) := fun hs => by
  have c1 := C61 (l := s.tk) ⟨hs.tk, hs.t⟩
  have c2 := C29 (l := s.ho) hs.ho
  have htr := hs.tr
  have hti := hs.ti
  refine pi1 fn13m ?_
  (repeat' first | (refine Owe.same ?_; first | refine Owe.o ?_ | refine Owe.mk ?_ ?_) | (refine Fork.same ?_; (first | refine fkD ?_ ?_ | refine fkN ?_ ?_ | refine fkM ?_ ?_) <;> intro h) | ((first | refine OpsL.same ?_ | refine OpsDL.same ?_); first | refine pK c1 rfl rfl ?_) | refine MvQ.stay ?_)
  refine Sat.nilB 1 1 24 1 (fun i => [intsD (([] : List (List Int)).getD i [])]) rfl rfl ?_
  refine Sat.lp (fun k : Nat => ⟨[(4, vi .i64 k), (1, .c (.rp (siD s))), (2, .c (.bp 0 0)), (3, .c (.bp 1 0))], [(2, rowv 24 1 (fun l => [intsD l]) [] (s.tr.take k)), (1, .box [.d (tksD s.tk), .ms 2 (s.tr.take k).length, ints s.ho, trs s.ti, int s.idle, int s.swim, int s.res, int s.fin]), (0, .box [.d (.v (.slice none 0 0)), .d (.v (.slice none 0 0)), .d (.v (.slice none 0 0)), .d (.v (.slice none 0 0)), int 0, int 0, int 0, int 0])], 3⟩) (fun k => k ≤ s.tr.length) (fun k => s.tr.length - k) 0 [0, 1, 2] (Nat.zero_le _) ?_ ?_
  · (refine qis ?_ ?_ <;> (repeat' first | exact rfl | (refine qS ?_; constructor)))
  · intro k hk
    refine Fork.dec (fun hlt => ?_) (fun hlt => ?_)
    · have hlt : k < s.tr.length := by omega
      have c3 := C29 (l := s.tr.getD k []) (hs.r k hlt)
      have hl1 : (s.tr.take k).length = k := by rw [List.length_take]; omega
      have htk : s.tr.take (k + 1) = s.tr.take k ++ [s.tr.getD k []] := by
        rw [List.take_add_one, List.getElem?_eq_getElem hlt, List.getD_eq_getElem?_getD, List.getElem?_eq_getElem hlt]; rfl
      (repeat' first | (refine Owe.same ?_; first | refine Owe.o ?_ | refine Owe.mk ?_ ?_) | (refine Fork.same ?_; (first | refine fkD ?_ ?_ | refine fkN ?_ ?_ | refine fkM ?_ ?_) <;> intro h) | ((first | refine OpsL.same ?_ | refine OpsDL.same ?_); first | refine pK c3 rfl rfl ?_) | refine MvQ.stay ?_)
      refine again (k + 1) [0, 1, 11] hlt (by omega) ?_
      rw [htk]
      (refine qis ?_ ?_ <;> (repeat' first | exact rfl | (refine qS ?_; constructor)))
      · exact ⟨s.tr.getD k [], rfl, rfl⟩
      · simp
    · have : k = s.tr.length := by omega
      subst this
      rw [List.take_length]
      (repeat' first | (refine Owe.same ?_; first | refine Owe.o ?_ | refine Owe.mk ?_ ?_) | (refine Fork.same ?_; (first | refine fkD ?_ ?_ | refine fkN ?_ ?_ | refine fkM ?_ ?_) <;> intro h))
      refine MvQ.frzX 1 1 2 rfl rfl rfl (Nat.le_refl _) ?_
      (repeat' first | (refine Owe.same ?_; first | refine Owe.o ?_ | refine Owe.mk ?_ ?_) | (refine Fork.same ?_; (first | refine fkD ?_ ?_ | refine fkN ?_ ?_ | refine fkM ?_ ?_) <;> intro h) | ((first | refine OpsL.same ?_ | refine OpsDL.same ?_); first | refine pK c2 rfl rfl ?_) | refine MvQ.stay ?_)
      (refine rqK rfl ?_; (repeat' first | exact rfl | (refine qS ?_; constructor)))
end Go.Pw

set_option linter.unusedSimpArgs false
set_option linter.unusedVariables false
set_option maxHeartbeats 4000000
namespace Go.Pw
set_option maxRecDepth 2000
open Go Go.Proofs A1 A2 A3 A4
/-- The reference's error of a state of a site. -/
def rsE (s : Si) (t : St8) : Int × Int := if 0 ≤ t.p ∧ t.p ≤ (s.ho.length : Int) - 1 then (if (isT t.t ∧ 0 ≤ t.w ∧ t.w ≤ 100000000) ∧ isN t.o then ascE t.d s.tk.length else (0, 2)) else (0, 6)
theorem rsE_eq {s : Si} {t : St8} (h : (siE s).2 = 0) : stE s t = rsE s t := by
  have e : stF s t = if 0 ≤ t.p ∧ t.p ≤ (s.ho.length : Int) - 1 then (if (isT t.t ∧ 0 ≤ t.w ∧ t.w ≤ 100000000) ∧ isN t.o then 0 else 2) else 6 := by
    rw [stF, h]
    by_cases h1 : 0 ≤ t.p ∧ t.p ≤ (s.ho.length : Int) - 1
    · rw [if_pos h1, unl, decide_eq_true h1]
      by_cases h2 : (isT t.t ∧ 0 ≤ t.w ∧ t.w ≤ 100000000) ∧ isN t.o
      · rw [if_pos h2, stN, unl, decide_eq_true h2]; rfl
      · rw [if_neg h2, stN, unl, decide_eq_false h2]; rfl
    · rw [if_neg h1, unl, decide_eq_false h1]; rfl
  rw [stE, e, rsE]
  by_cases h1 : 0 ≤ t.p ∧ t.p ≤ (s.ho.length : Int) - 1
  · by_cases h2 : (isT t.t ∧ 0 ≤ t.w ∧ t.w ≤ 100000000) ∧ isN t.o
    · simp only [if_pos h1, if_pos h2]; rfl
    · simp only [if_pos h1, if_neg h2]; rfl
  · simp only [if_neg h1]; rfl
theorem C17 {s : Si} {t : St8} : (SiSm s ∧ t.d.length ≤ 1000000) → PFD Try.prog 17 [siv s, stv t] (.tup [vi .i64 (rsE s t).1, vi .i64 (rsE s t).2]) := fun ⟨hs, ht⟩ => by
  have hho := hs.ho
  have htk := hs.tk
  obtain ⟨q, hq⟩ : ∃ q, q = rsE s t := ⟨_, rfl⟩
  rw [← hq]
  rw [rsE] at hq
  refine pi2 fn17 ?_
  (repeat' first | (refine Owe.same ?_; first | refine Owe.o ?_ | refine Owe.mk ?_ ?_) | (refine Fork.same ?_; (first | refine fkD ?_ ?_ | refine fkN ?_ ?_ | refine fkM ?_ ?_) <;> intro h) | ((first | refine OpsL.same ?_ | refine OpsDL.same ?_); first | refine pK C19 rfl rfl ?_ | refine pK C66 rfl rfl ?_ | refine pK C65 rfl rfl ?_) | refine MvQ.stay ?_)
  · rw [if_neg h] at hq; subst hq; (refine rqK rfl ?_; (repeat' first | exact rfl | (refine qS ?_; constructor)))
  · rename_i h1
    rw [if_pos h1, if_neg (fun hh => h hh.1.1)] at hq; subst hq; (refine rqK rfl ?_; (repeat' first | exact rfl | (refine qS ?_; constructor)))
  · rename_i h1 h2
    rw [if_pos h1, if_neg (fun hh => h hh.1.2)] at hq; subst hq; (refine rqK rfl ?_; (repeat' first | exact rfl | (refine qS ?_; constructor)))
  · rename_i h1 h2 h3
    rw [if_pos h1, if_neg (fun hh => h hh.2)] at hq; subst hq; (refine rqK rfl ?_; (repeat' first | exact rfl | (refine qS ?_; constructor)))
  · rename_i h1 h2 h3
    rw [if_pos h1, if_pos ⟨⟨h2, h3⟩, h⟩] at hq
    clear h h1 h2 h3
    (repeat' first | (refine Owe.same ?_; first | refine Owe.o ?_ | refine Owe.mk ?_ ?_) | (refine Fork.same ?_; (first | refine fkD ?_ ?_ | refine fkN ?_ ?_ | refine fkM ?_ ?_) <;> intro h) | refine MvQ.stay ?_)
    refine Sat.lp0 (fun k : Nat => [(6, vi .i64 k), (2, .c (.rp (siD s))), (3, .c (.rp (stD t)))]) (fun k => k ≤ t.d.length ∧ ∀ i, i < k → ascN t.d s.tk.length i = 0) (fun k => t.d.length - k) 0 ⟨Nat.zero_le _, fun i hi => by omega⟩ (by ((first | refine qen ?_ | refine qvs ?_ | refine qeq ?_ | refine qst ?_ | refine qv ?_ | refine qc ?_ | refine qe ?_ | refine qcs ?_ | skip); (repeat' first | exact rfl | (refine qS ?_; constructor)))) ?_
    intro k hk
    refine Fork.dec (fun hlt => ?_) (fun hlt => ?_)
    · have hlt : k < t.d.length := by omega
      have hr : ∀ {e}, ascN t.d s.tk.length k = e → ¬ e = 0 → q = ((k : Int), e) := fun he h2 => by
        rw [hq, ascE, eachN_e hlt hk.2 (by rw [he]; exact h2), he]
      have c1 := C67 (s := s) (n := t.d.getD k 0) htk
      (repeat' first | (refine Owe.same ?_; first | refine Owe.o ?_ | refine Owe.mk ?_ ?_) | (refine Fork.same ?_; (first | refine fkD ?_ ?_ | refine fkN ?_ ?_ | refine fkM ?_ ?_) <;> intro h) | ((first | refine OpsL.same ?_ | refine OpsDL.same ?_); first | refine pK c1 rfl rfl ?_) | refine MvQ.stay ?_)
      · have hx := hr (ascN_6 h) (by decide)
        subst hx
        (refine rqK rfl ?_; (repeat' first | exact rfl | (refine qS ?_; constructor)))
      · have hx := hr (ascN_9 ‹_› (by omega) (by rw [show k - 1 = ((k : Int) - 1).toNat by omega]; exact h)) (by decide)
        subst hx
        (refine rqK rfl ?_; (repeat' first | exact rfl | (refine qS ?_; constructor)))
      · have h0 := ascN_0 (l := t.d) (b := s.tk.length) (j := k) ‹_› (fun _ => by
          have h : ¬ t.d.getD k 0 ≤ t.d.getD ((k : Int) - 1).toNat 0 := h
          rw [show k - 1 = ((k : Int) - 1).toNat by omega]; omega)
        exact again0 (k + 1) ⟨hlt, succ_all hk.2 h0⟩ (by omega) (by ((first | refine qen ?_ | refine qvs ?_ | refine qeq ?_ | refine qst ?_ | refine qv ?_ | refine qc ?_ | refine qe ?_ | refine qcs ?_ | skip); (repeat' first | exact rfl | (refine qS ?_; constructor))))
      · have h0 := ascN_0 (l := t.d) (b := s.tk.length) (j := k) ‹_› (fun hh => by omega)
        exact again0 (k + 1) ⟨hlt, succ_all hk.2 h0⟩ (by omega) (by ((first | refine qen ?_ | refine qvs ?_ | refine qeq ?_ | refine qst ?_ | refine qv ?_ | refine qc ?_ | refine qe ?_ | refine qcs ?_ | skip); (repeat' first | exact rfl | (refine qS ?_; constructor))))
    · have : k = t.d.length := by omega
      subst this
      rw [ascE, eachN_z hk.2] at hq
      subst hq
      (repeat' first | (refine Owe.same ?_; first | refine Owe.o ?_ | refine Owe.mk ?_ ?_) | (refine Fork.same ?_; (first | refine fkD ?_ ?_ | refine fkN ?_ ?_ | refine fkM ?_ ?_) <;> intro h) | refine MvQ.stay ?_)
      (refine rqK rfl ?_; (repeat' first | exact rfl | (refine qS ?_; constructor)))
theorem C68 {s : Si} : SiSm s → PFD Try.prog 68 [siv s] (vi .i64 (siE s).2) := fun hs => by
  have c1 := C16 hs
  refine pi1 fn68 ?_
  (repeat' first | (refine Owe.same ?_; first | refine Owe.o ?_ | refine Owe.mk ?_ ?_) | (refine Fork.same ?_; (first | refine fkD ?_ ?_ | refine fkN ?_ ?_ | refine fkM ?_ ?_) <;> intro h) | ((first | refine OpsL.same ?_ | refine OpsDL.same ?_); first | refine pK c1 rfl rfl ?_) | refine MvQ.stay ?_)
  (refine rqK rfl ?_; (repeat' first | exact rfl | (refine qS ?_; constructor)))
theorem C69 {s : Si} {t : St8} : (SiSm s ∧ t.d.length ≤ 1000000) → PFD Try.prog 69 [siv s, stv t] (vi .i64 (rsE s t).2) := fun hs => by
  have c1 := C17 hs
  refine pi1 fn69 ?_
  (repeat' first | (refine Owe.same ?_; first | refine Owe.o ?_ | refine Owe.mk ?_ ?_) | (refine Fork.same ?_; (first | refine fkD ?_ ?_ | refine fkN ?_ ?_ | refine fkM ?_ ?_) <;> intro h) | ((first | refine OpsL.same ?_ | refine OpsDL.same ?_); first | refine pK c1 rfl rfl ?_) | refine MvQ.stay ?_)
  (refine rqK rfl ?_; (repeat' first | exact rfl | (refine qS ?_; constructor)))
theorem onE_of {s : Si} {t : St8} (h : ¬ (siE s).2 = 0) : onE s t = (siE s).2 := by rw [onE, fstE, if_neg h]
theorem onE_eq {s : Si} {t : St8} (h : (siE s).2 = 0) : onE s t = (rsE s t).2 := by
  rw [onE, fstE, if_pos h, fstE, rsE_eq h]
  split
  · rename_i h; rw [h]; rfl
  · rfl
theorem C18 {s : Si} {t : St8} : (SiSm s ∧ t.d.length ≤ 1000000) → PFD Try.prog 18 [siv s, stv t] (vi .i64 (onE s t)) := fun hs => by
  have c1 := C68 hs.1
  have c2 := C69 hs
  obtain ⟨q, hq⟩ : ∃ q, q = onE s t := ⟨_, rfl⟩
  rw [← hq]
  refine pi1 fn18 ?_
  (repeat' first | (refine Owe.same ?_; first | refine Owe.o ?_ | refine Owe.mk ?_ ?_) | (refine Fork.same ?_; (first | refine fkD ?_ ?_ | refine fkN ?_ ?_ | refine fkM ?_ ?_) <;> intro h) | ((first | refine OpsL.same ?_ | refine OpsDL.same ?_); first | refine pK c1 rfl rfl ?_ | refine pK c2 rfl rfl ?_) | refine MvQ.stay ?_)
  · rw [onE_of h] at hq; subst hq; (refine rqK rfl ?_; (repeat' first | exact rfl | (refine qS ?_; constructor)))
  · rw [onE_eq h] at hq; subst hq; (refine rqK rfl ?_; (repeat' first | exact rfl | (refine qS ?_; constructor)))
/-- Equal states. -/
abbrev sameB (a b : St8) : Bool := decide (a.p = b.p ∧ a.t = b.t ∧ a.w = b.w ∧ a.o = b.o ∧ a.d = b.d)
theorem C40 {a b : St8} : a.d.length < 4611686018427387904 → PFD Try.prog 40 [stv a, stv b] (vbl (sameB a b)) := fun h => by
  have c1 := C46 (l := a.d) (m := b.d) h
  refine pi1 fn40 ?_
  (repeat' first | (refine Owe.same ?_; first | refine Owe.o ?_ | refine Owe.mk ?_ ?_) | (refine Fork.same ?_; (first | refine fkD ?_ ?_ | refine fkN ?_ ?_ | refine fkM ?_ ?_) <;> intro h) | ((first | refine OpsL.same ?_ | refine OpsDL.same ?_); first | refine pK c1 rfl rfl ?_) | refine MvQ.stay ?_)
  all_goals ((refine rqK rfl ?_; (repeat' first | exact rfl | (refine qS ?_; constructor))); simp only [sameB, decide_eq_decide, decide_eq_false_iff_not, decide_eq_true_eq]; simp_all)
end Go.Pw

set_option linter.unusedSimpArgs false
set_option linter.unusedVariables false
set_option maxHeartbeats 4000000
namespace Go.Pw
set_option maxRecDepth 2000
open Go Go.Proofs A1 A2 A3 A4
theorem DI.take {l : List Int} {k : Nat} {f : Nat → List D} (hk : k ≤ l.length) (hf : ∀ i, i < k → f i = r1 (l.getD i 0)) : DI (.sl 1 k f) (intsD (l.take k)) := by
  have e : (l.take k).length = k := by rw [List.length_take]; omega
  show DI _ (.sl 1 (l.take k).length _)
  rw [e]
  refine DI.sl fun i hi => ?_
  have e2 : (l.take k).getD i 0 = l.getD i 0 := by simp only [List.getD_eq_getElem?_getD, List.getElem?_take, hi, if_true]
  rw [hf i hi, e2]
  exact DIs.refl _
theorem DI.drop {l : List Int} {k m : Nat} {f : Nat → List D} (hm : m = l.length - k) (hf : ∀ i, i < m → f i = r1 (l.getD (k + i) 0)) : DI (.sl 1 m f) (intsD (l.drop k)) := by
  subst hm
  show DI _ (.sl 1 (l.drop k).length _)
  rw [List.length_drop]
  refine DI.sl fun i hi => ?_
  have e2 : (l.drop k).getD i 0 = l.getD (k + i) 0 := by simp only [List.getD_eq_getElem?_getD, List.getElem?_drop]
  rw [hf i hi, e2]
  exact DIs.refl _
theorem C105t {l : List Int} {k : Nat} {n : Int} (hk : k ≤ l.length ∧ l.length ≤ 1000000) : PFD Try.prog 105 [.c (.d (.sl 1 k fun i => r1 (l.getD i 0))), vi .i64 n] (vbl (decide (n ∈ l.take k))) :=
  PFD.ri (C105 (l := l.take k) (by rw [List.length_take]; omega)) (.cons (RI.cI (DI.take hk.1 fun _ _ => rfl)) (.cons (RI.refl _) .nil))
theorem C51 {g : FuncId} {rows : List (List D)} {l : List Int} {f : Nat → Int} (hg : ∀ i, i < l.length → PFD Try.prog g (vi .i64 i :: vi .i64 (l.getD i 0) :: rows.map fun r => .c (.rp r)) (vi .i64 (f i))) : l.length ≤ 1000000 → PFD Try.prog 51 [.c (ints l), .c (.fnR g rows)] (.tup [vi .i64 (eachN f 0 l.length).1, vi .i64 (eachN f 0 l.length).2]) := fun hl => by
  refine pi2 fn51 ?_
  (repeat' first | (refine Owe.same ?_; first | refine Owe.o ?_ | refine Owe.mk ?_ ?_) | (refine Fork.same ?_; (first | refine fkD ?_ ?_ | refine fkN ?_ ?_ | refine fkM ?_ ?_) <;> intro h) | refine MvQ.stay ?_)
  refine Sat.lp0 (fun k : Nat => [(11, vi .i64 k), (10, vi .i64 l.length), (9, .c (ints l)), (1, .c (.fnR g rows))]) (fun k => k ≤ l.length ∧ ∀ i, i < k → f i = 0) (fun k => l.length - k) 0 ⟨Nat.zero_le _, fun i hi => by omega⟩ (by ((first | refine qen ?_ | refine qvs ?_ | refine qeq ?_ | refine qst ?_ | refine qv ?_ | refine qc ?_ | refine qe ?_ | refine qcs ?_ | skip); (repeat' first | exact rfl | (refine qS ?_; constructor)))) ?_
  intro k hk
  refine Fork.dec (fun hlt => ?_) (fun hlt => ?_)
  · have hlt : k < l.length := by omega
    (repeat' first | (refine Owe.same ?_; first | refine Owe.o ?_ | refine Owe.mk ?_ ?_) | (refine Fork.same ?_; (first | refine fkD ?_ ?_ | refine fkN ?_ ?_ | refine fkM ?_ ?_) <;> intro h) | ((first | refine OpsL.same ?_ | refine OpsDL.same ?_); first | refine pR (hg k hlt) rfl rfl ?_) | refine MvQ.stay ?_)
    · have e := eachN_e hlt hk.2 h
      (refine rqK rfl ?_; (repeat' first | exact rfl | (refine qS ?_; constructor))) <;> rw [e]
    · exact again0 (k + 1) ⟨hlt, succ_all hk.2 h⟩ (by omega) (by ((first | refine qen ?_ | refine qvs ?_ | refine qeq ?_ | refine qst ?_ | refine qv ?_ | refine qc ?_ | refine qe ?_ | refine qcs ?_ | skip); (repeat' first | exact rfl | (refine qS ?_; constructor))))
  · have : k = l.length := by omega
    subst this
    have e := eachN_z hk.2
    (repeat' first | (refine Owe.same ?_; first | refine Owe.o ?_ | refine Owe.mk ?_ ?_) | (refine Fork.same ?_; (first | refine fkD ?_ ?_ | refine fkN ?_ ?_ | refine fkM ?_ ?_) <;> intro h) | refine MvQ.stay ?_)
    (refine rqK rfl ?_; (repeat' first | exact rfl | (refine qS ?_; constructor))) <;> rw [e]
/-- The error of numbers of tasks. -/
abbrev nuN (s : Si) (l : List Int) (i : Nat) : Int := fstE [unl (0 ≤ l.getD i 0 ∧ l.getD i 0 ≤ (s.tk.length : Int) - 1) 6, unb (!decide (l.getD i 0 ∈ l.take i)) 23]
def nuE (s : Si) (l : List Int) : Int := (eachN (nuN s l) 0 l.length).2
theorem C109 {s : Si} {l : List Int} {k : Nat} : (k < l.length ∧ l.length ≤ 1000000 ∧ s.tk.length ≤ 1000000) → PFD Try.prog 109 [vi .i64 k, vi .i64 (l.getD k 0), .c (.rp (siD s)), .c (.rp [intsD l])] (vi .i64 (nuN s l k)) := fun ⟨hk, hl, hs⟩ => by
  have c1 := C105t (l := l) (k := k) (n := l.getD k 0) ⟨by omega, hl⟩
  obtain ⟨q, hq⟩ : ∃ q, q = nuN s l k := ⟨_, rfl⟩
  rw [← hq]
  refine pi1 fn109 ?_
  (repeat' first | (refine Owe.same ?_; first | refine Owe.o ?_ | refine Owe.mk ?_ ?_) | (refine Fork.same ?_; (first | refine fkD ?_ ?_ | refine fkN ?_ ?_ | refine fkM ?_ ?_) <;> intro h) | ((first | refine OpsL.same ?_ | refine OpsDL.same ?_); first | refine pK C62 rfl rfl ?_ | refine pK c1 rfl rfl ?_ | refine pK C50 rfl rfl ?_ | refine pK C49 rfl rfl ?_) | refine MvQ.stay ?_)
  subst hq
  (refine rqK rfl ?_; (repeat' first | exact rfl | (refine qS ?_; constructor)))
theorem C81 {s : Si} {l : List Int} : (l.length ≤ 1000000 ∧ s.tk.length ≤ 1000000) → PFD Try.prog 81 [siv s, .c (ints l)] (vi .i64 (nuE s l)) := fun ⟨hl, hs⟩ => by
  have c1 := C51 (g := 109) (rows := [siD s, [intsD l]]) (f := nuN s l) (fun i hi => C109 ⟨hi, hl, hs⟩) hl
  obtain ⟨q, hq⟩ : ∃ q, q = nuE s l := ⟨_, rfl⟩
  rw [← hq]
  rw [nuE] at hq
  generalize eachN (nuN s l) 0 l.length = e at *
  refine pi1 fn81 ?_
  (repeat' first | (refine Owe.same ?_; first | refine Owe.o ?_ | refine Owe.mk ?_ ?_) | (refine Fork.same ?_; (first | refine fkD ?_ ?_ | refine fkN ?_ ?_ | refine fkM ?_ ?_) <;> intro h) | ((first | refine OpsL.same ?_ | refine OpsDL.same ?_); first | refine pK c1 rfl rfl ?_) | refine MvQ.stay ?_)
  subst hq
  (refine rqK rfl ?_; (repeat' first | exact rfl | (refine qS ?_; constructor)))
theorem nuE_ok {s : Si} {l : List Int} : nuE s l = 0 ↔ tkNs s l ∧ l.Nodup := by
  rw [nuE, eachN_ok]
  constructor
  · intro h
    have h1 : ∀ i, i < l.length → (0 ≤ l.getD i 0 ∧ l.getD i 0 ≤ (s.tk.length : Int) - 1) ∧ l.getD i 0 ∉ l.take i := fun i hi => by
      have := h i hi
      rw [nuN, fst2, unl0 (by decide), unb_ok (by decide)] at this
      exact ⟨this.1, by simpa using this.2⟩
    refine ⟨fun i hi => by have := (h1 i hi).1; omega, ?_⟩
    rw [List.nodup_iff_pairwise_ne, List.pairwise_iff_getElem]
    intro i j hi hj hij e
    refine (h1 j hj).2 ?_
    rw [List.getD_eq_getElem?_getD, List.getElem?_eq_getElem hj]
    show l[j] ∈ _
    rw [← e]
    have h2 : (l.take j)[i]? = some l[i] := by rw [List.getElem?_take, if_pos hij, List.getElem?_eq_getElem hi]
    exact List.mem_of_getElem? h2
  · rintro ⟨h1, h2⟩ i hi
    rw [nuN, fst2, unl0 (by decide), unb_ok (by decide)]
    refine ⟨by have := h1 i hi; omega, ?_⟩
    rw [Bool.not_eq_true', decide_eq_false_iff_not]
    intro hm
    obtain ⟨j, hj, e⟩ := List.getElem_of_mem hm
    rw [List.length_take] at hj
    rw [List.getElem_take, List.getD_eq_getElem?_getD, List.getElem?_eq_getElem hi] at e
    rw [List.nodup_iff_pairwise_ne, List.pairwise_iff_getElem] at h2
    exact h2 j i (by omega) hi (by omega) e
/-- Some number is done. -/
abbrev dnB (t : St8) (l : List Int) : Bool := l.any fun n => decide (n ∈ t.d)
theorem SetOk.of {s : Si} {t : St8} {l : List Int} (h : nuE s l = 0) (h1 : dnB t l = false) : SetOk s t l where
  n := (nuE_ok.1 h).1
  u := (nuE_ok.1 h).2
  d := fun x hx => by have := List.any_eq_false.1 h1 x hx; simpa using this
abbrev tgB (s : Si) (t : St8) (l : List Int) : Bool := togB s l.length t l
def goE (s : Si) (t : St8) (l : List Int) : Int := fstE [if onE s t = 0 then nuE s l else onE s t, unb (!dnB t l) 23]
theorem C28 {s : Si} {t : St8} {l : List Int} : (SiSm s ∧ t.d.length ≤ 1000000 ∧ l.length ≤ 1000000) → PFD Try.prog 28 [siv s, stv t, .c (ints l)] (.tup [vbl (decide (goE s t l = 0) && tgB s t l), vi .i64 (goE s t l)]) := fun ⟨hs, ht, hl⟩ => by
  have c1 := C70 (s := s) (t := t) ⟨hs, ht⟩
  have c2 := C81 (s := s) (l := l) ⟨hl, hs.tk⟩
  have c3 := C53b (g := 79) (ds := diD s t) (l := l) (f := fun i => decide (l.getD i 0 ∈ t.d)) (fun i hi => C79 ht) hl
  rw [anyN_mem (p := fun n => decide (n ∈ t.d))] at c3
  change PFD Try.prog 53 _ (vbl (dnB t l)) at c3
  obtain ⟨q, hq⟩ : ∃ q, q = goE s t l := ⟨_, rfl⟩
  rw [← hq]
  rw [goE] at hq
  by_cases h0 : onE s t = 0
  · rw [h0] at c1
    rw [if_pos h0] at hq
    by_cases h1 : q = 0
    · have h2 := hq.symm.trans h1
      rw [fst2, unb_ok (by decide)] at h2
      have hO := OnOk.of h0
      have c4 := C80 hs.t l.length hO (SetOk.of h2.1 (by simpa using h2.2)) (Nat.le_refl _)
      rw [decide_eq_true h1, Bool.true_and]
      change PFD Try.prog 80 _ (vbl (tgB s t l)) at c4
      generalize dnB t l = b at *
      generalize nuE s l = e at *
      generalize tgB s t l = r at *
      refine pi2 fn28 ?_
      (repeat' first | (refine Owe.same ?_; first | refine Owe.o ?_ | refine Owe.mk ?_ ?_) | (refine Fork.same ?_; (first | refine fkY ?_ | refine fkF ?_ | ((first | refine fkD ?_ ?_ | refine fkN ?_ ?_ | refine fkM ?_ ?_) <;> intro h))) | ((first | refine OpsL.same ?_ | refine OpsDL.same ?_); first | refine oK c1 rfl rfl rfl ?_ | refine oK c2 rfl rfl rfl ?_) | refine MvQ.stay ?_)
      (repeat' first | (refine Owe.same ?_; first | refine Owe.o ?_ | refine Owe.mk ?_ ?_) | (refine Fork.same ?_; (first | refine fkD ?_ ?_ | refine fkN ?_ ?_ | refine fkM ?_ ?_) <;> intro h) | ((first | refine OpsL.same ?_ | refine OpsDL.same ?_); first | refine pK c3 rfl rfl ?_ | refine pK C50 rfl rfl ?_ | refine pK C49 rfl rfl ?_) | refine MvQ.stay ?_)
      · exact absurd (hq.symm.trans h1) h
      · (repeat' first | (refine Owe.same ?_; first | refine Owe.o ?_ | refine Owe.mk ?_ ?_) | (refine Fork.same ?_; (first | refine fkY ?_ | refine fkF ?_ | ((first | refine fkD ?_ ?_ | refine fkN ?_ ?_ | refine fkM ?_ ?_) <;> intro h))) | ((first | refine OpsL.same ?_ | refine OpsDL.same ?_); first | refine oK c4 rfl rfl rfl ?_) | refine MvQ.stay ?_)
        (refine rqK rfl ?_; (repeat' first | exact rfl | (refine qS ?_; constructor)))
        all_goals first | exact h1.symm | exact h1
    · rw [decide_eq_false h1, Bool.false_and]
      generalize dnB t l = b at *
      generalize nuE s l = e at *
      refine pi2 fn28 ?_
      (repeat' first | (refine Owe.same ?_; first | refine Owe.o ?_ | refine Owe.mk ?_ ?_) | (refine Fork.same ?_; (first | refine fkY ?_ | refine fkF ?_ | ((first | refine fkD ?_ ?_ | refine fkN ?_ ?_ | refine fkM ?_ ?_) <;> intro h))) | ((first | refine OpsL.same ?_ | refine OpsDL.same ?_); first | refine oK c1 rfl rfl rfl ?_ | refine oK c2 rfl rfl rfl ?_) | refine MvQ.stay ?_)
      (repeat' first | (refine Owe.same ?_; first | refine Owe.o ?_ | refine Owe.mk ?_ ?_) | (refine Fork.same ?_; (first | refine fkD ?_ ?_ | refine fkN ?_ ?_ | refine fkM ?_ ?_) <;> intro h) | ((first | refine OpsL.same ?_ | refine OpsDL.same ?_); first | refine pK c3 rfl rfl ?_ | refine pK C50 rfl rfl ?_ | refine pK C49 rfl rfl ?_) | refine MvQ.stay ?_)
      · subst hq
        (refine rqK rfl ?_; (repeat' first | exact rfl | (refine qS ?_; constructor)))
      · exact absurd (hq.trans h) h1
  · rw [if_neg h0] at hq
    have h1 : ¬ q = 0 := fun hh => by
      have h2 := hq.symm.trans hh
      rw [fst2] at h2
      exact h0 h2.1
    rw [decide_eq_false h1, Bool.false_and]
    generalize dnB t l = b at *
    generalize onE s t = e at *
    refine pi2 fn28 ?_
    (repeat' first | (refine Owe.same ?_; first | refine Owe.o ?_ | refine Owe.mk ?_ ?_) | (refine Fork.same ?_; (first | refine fkY ?_ | refine fkF ?_ | ((first | refine fkD ?_ ?_ | refine fkN ?_ ?_ | refine fkM ?_ ?_) <;> intro h))) | ((first | refine OpsL.same ?_ | refine OpsDL.same ?_); first | refine oK c1 rfl rfl rfl ?_) | refine MvQ.stay ?_)
    (repeat' first | (refine Owe.same ?_; first | refine Owe.o ?_ | refine Owe.mk ?_ ?_) | (refine Fork.same ?_; (first | refine fkD ?_ ?_ | refine fkN ?_ ?_ | refine fkM ?_ ?_) <;> intro h) | ((first | refine OpsL.same ?_ | refine OpsDL.same ?_); first | refine pK c3 rfl rfl ?_ | refine pK C50 rfl rfl ?_ | refine pK C49 rfl rfl ?_) | refine MvQ.stay ?_)
    · subst hq
      (refine rqK rfl ?_; (repeat' first | exact rfl | (refine qS ?_; constructor)))
    · exact absurd (hq.trans h) h1
end Go.Pw

set_option linter.unusedSimpArgs false
set_option linter.unusedVariables false
set_option maxHeartbeats 4000000
namespace Go.Pw
set_option maxRecDepth 2000
open Go Go.Proofs A1 A2 A3 A4
theorem bit_i64 {b i : Nat} (hb : b < 2 ^ 62) (hi : i < 64) : decide (IntKind.i64.wrap ((BitVec.ofInt IntKind.i64.bits ((b : Int).fdiv (2 ^ min (Int.toNat (i : Int)) IntKind.i64.bits)) &&& BitVec.ofInt IntKind.i64.bits 1).toNat : Nat) = 1) = b.testBit i := by
  have hbits : IntKind.i64.bits = 64 := rfl
  have e1 : (b : Int).fdiv (2 ^ min (Int.toNat (i : Int)) IntKind.i64.bits) = ((b / 2 ^ i : Nat) : Int) := by
    rw [hbits, Int.toNat_natCast, Nat.min_eq_left (by omega), Int.fdiv_eq_ediv_of_nonneg _ (Int.pow_nonneg (by decide))]
    norm_cast
  rw [e1, Nat.testBit_eq_decide_div_mod_eq]
  have hlt : b / 2 ^ i < 2 ^ 62 := by
    have := Nat.div_le_self b (2 ^ i)
    omega
  generalize b / 2 ^ i = q at hlt ⊢
  have e2 : (BitVec.ofInt IntKind.i64.bits (q : Int) &&& BitVec.ofInt IntKind.i64.bits 1).toNat = q % 2 := by
    rw [BitVec.toNat_and]
    have f1 : (BitVec.ofInt IntKind.i64.bits (q : Int)).toNat = q := by
      rw [BitVec.toNat_ofInt, hbits]; omega
    have f2 : (BitVec.ofInt IntKind.i64.bits 1).toNat = 1 := rfl
    rw [f1, f2, Nat.and_one_is_mod]
  rw [e2]
  have e3 : IntKind.i64.wrap ((q % 2 : Nat) : Int) = ((q % 2 : Nat) : Int) := by
    rcases (show q % 2 = 0 ∨ q % 2 = 1 by omega) with h | h <;> rw [h] <;> rfl
  rw [e3, Bool.eq_iff_iff, decide_eq_true_eq, decide_eq_true_eq]
  omega
theorem shl_i64 {n : Nat} (h : n ≤ 20) : IntKind.i64.wrap (1 * 2 ^ min (Int.toNat (n : Int)) IntKind.i64.bits) = ((2 ^ n : Nat) : Int) := by
  have : n = 0 ∨ n = 1 ∨ n = 2 ∨ n = 3 ∨ n = 4 ∨ n = 5 ∨ n = 6 ∨ n = 7 ∨ n = 8 ∨ n = 9 ∨ n = 10 ∨ n = 11 ∨ n = 12 ∨ n = 13 ∨ n = 14 ∨ n = 15 ∨ n = 16 ∨ n = 17 ∨ n = 18 ∨ n = 19 ∨ n = 20 := by omega
  rcases this with h | h | h | h | h | h | h | h | h | h | h | h | h | h | h | h | h | h | h | h | h <;> subst h <;> decide
theorem fltL_asc {p : Nat → Bool} {n : Nat} : (fltL p n).Pairwise (· < ·) := by
  rw [fltL, List.pairwise_map]
  refine List.Pairwise.filter _ ?_
  exact List.pairwise_lt_range.imp fun h => Int.ofNat_lt.2 h
/-- The numbers of a set, as bits say. -/
abbrev subL (n b : Nat) : List Int := fltL (fun i => b.testBit i) n
theorem subL_mem {n b : Nat} {x : Int} (h : x ∈ subL n b) : 0 ≤ x ∧ x < n := by
  simp only [subL, fltL, List.mem_map, List.mem_filter, List.mem_range] at h
  obtain ⟨i, ⟨h1, _⟩, rfl⟩ := h
  omega
theorem subL_nd {n b : Nat} : (subL n b).Nodup := by
  rw [List.nodup_iff_pairwise_ne]
  exact fltL_asc.imp fun h => by omega
/-- The slice of the best one, or none. -/
abbrev nilO : Option (List Int) → V
  | none => .c (.d (.v (.slice none 0 0)))
  | some l => .c (ints l)
abbrev smO (o : Option (List Int)) (l : List Int) : Bool := match o with
  | none => true
  | some m => decide (fstE [cmpI l.length m.length, cmpL l m] < 0)
/-- A set of tasks that do not go together. -/
abbrev clB (s : Si) (t : St8) (l : List Int) : Bool := !dnB t l && !tgB s t l
def clK (s : Si) (t : St8) (n : Nat) : Nat → Option (List Int)
  | 0 => none
  | b + 1 => if smO (clK s t n b) (subL n b) = true ∧ clB s t (subL n b) = true then some (subL n b) else clK s t n b
abbrev clO (s : Si) (t : St8) : Option (List Int) := clK s t s.tk.length (2 ^ s.tk.length)
def clE (s : Si) (t : St8) : List Int × Int := if onE s t = 0 then (match clO s t with | none => ([], 12) | some l => (l, 0)) else ([], onE s t)
theorem SetOk.sub {s : Si} {t : St8} {b : Nat} (h : dnB t (subL s.tk.length b) = false) : SetOk s t (subL s.tk.length b) where
  n := fun i hi => subL_mem (getD_mem 0 hi)
  u := subL_nd
  d := fun x hx => by have := List.any_eq_false.1 h x hx; simpa using this
theorem clK_len {s : Si} {t : St8} {n : Nat} : ∀ {b : Nat} {l : List Int}, clK s t n b = some l → l.length ≤ n ∧ 0 < l.length
  | 0, l, h => by cases h
  | b + 1, l, h => by
    rw [clK] at h
    split at h
    · rename_i hh
      cases h
      refine ⟨fltL_len _ _, ?_⟩
      rcases Nat.eq_zero_or_pos (subL n b).length with h0 | h0
      · have e := List.eq_nil_of_length_eq_zero h0
        rw [e] at hh
        have := hh.2
        simp [clB, tgB, togB] at this
      · exact h0
    · exact clK_len h
theorem C27 {s : Si} {t : St8} : (SiSm s ∧ t.d.length ≤ 1000000) → PFD Try.prog 27 [siv s, stv t] (.tup [.c (ints (clE s t).1), vi .i64 (clE s t).2]) := fun ⟨hs, ht⟩ => by
  have c1 := C70 (s := s) (t := t) ⟨hs, ht⟩
  obtain ⟨q, hq⟩ : ∃ q, q = clE s t := ⟨_, rfl⟩
  rw [← hq]
  rw [clE] at hq
  by_cases h0 : onE s t = 0
  · rw [if_pos h0, clO] at hq
    rw [h0] at c1
    have hO := OnOk.of h0
    have hn := hO.ok.n
    have hshl := shl_i64 (n := s.tk.length) (by omega)
    have hpow : 2 ^ s.tk.length ≤ 2 ^ 6 := Nat.pow_le_pow_right (by decide) hn
    have hpos : 1 ≤ 2 ^ s.tk.length := Nat.one_le_two_pow
    obtain ⟨N, hN⟩ : ∃ N, N = 2 ^ s.tk.length := ⟨_, rfl⟩
    rw [← hN] at hshl hpow hq hpos
    have hst : none = clK s t s.tk.length 1 := by
      have e : subL s.tk.length 0 = [] := by
        rw [subL, fltL, List.map_eq_nil_iff, List.filter_eq_nil_iff]; simp
      rw [clK, clK, e, if_neg]
      rintro ⟨_, h⟩
      simp [clB, tgB, togB] at h
    refine pi2 fn27 ?_
    (repeat' first | (refine Owe.same ?_; first | refine Owe.o ?_ | refine Owe.mk ?_ ?_) | (refine Fork.same ?_; (first | refine fkY ?_ | refine fkF ?_ | ((first | refine fkD ?_ ?_ | refine fkN ?_ ?_ | refine fkM ?_ ?_) <;> intro h))) | ((first | refine OpsL.same ?_ | refine OpsDL.same ?_); first | refine oK c1 rfl rfl rfl ?_) | refine MvQ.stay ?_)
    (repeat' first | (refine Owe.same ?_; first | refine Owe.o ?_ | refine Owe.mk ?_ ?_) | (refine Fork.same ?_; (first | refine fkD ?_ ?_ | refine fkN ?_ ?_ | refine fkM ?_ ?_) <;> intro h) | refine MvQ.stay ?_)
    refine Sat.lp (fun ((b, o) : Nat × Option (List Int)) => ⟨[(9, vi .i64 b), (8, nilO o), (2, .c (.rp (siD s))), (6, .c (.bp 0 0))], [(0, .box (diC s t))], 1⟩) (fun ((b, o) : Nat × Option (List Int)) => b ≤ N ∧ o = clK s t s.tk.length b) (fun ((b, _) : Nat × Option (List Int)) => N - b) (1, none) [0] ⟨hpos, hst⟩ ?_ ?_
    · (refine qis ?_ ?_ <;> (repeat' first | exact rfl | (refine qS ?_; constructor)))
    · intro ⟨b, o⟩ ⟨hb, ho⟩
      rcases o with _ | m
      · rcases Nat.lt_or_eq_of_le hb with hbl | rfl
        rotate_left
        · rw [← ho] at hq
          (repeat' first | (refine Owe.same ?_; first | refine Owe.o ?_ | refine Owe.mk ?_ ?_) | (refine Fork.same ?_; (first | refine fkY ?_ | refine fkF ?_ | ((first | refine fkD ?_ ?_ | refine fkN ?_ ?_ | refine fkM ?_ ?_) <;> intro h))) | ((first | refine OpsL.same ?_ | refine OpsDL.same ?_); first | refine oK C50 rfl rfl rfl ?_) | refine MvQ.stay ?_)
          subst hq
          (refine rqK rfl ?_; (repeat' first | exact rfl | (refine qS ?_; constructor)))
        · (repeat' first | (refine Owe.same ?_; first | refine Owe.o ?_ | refine Owe.mk ?_ ?_) | (refine Fork.same ?_; (first | refine fkD ?_ ?_ | refine fkN ?_ ?_ | refine fkM ?_ ?_) <;> intro h) | refine MvQ.stay ?_)
          rotate_left
          · rw [hshl] at h; omega
          · refine Sat.nilS 10 3 1 (fun i => r1 (([] : List Int).getD i 0)) rfl ?_
            refine Sat.lp (fun i : Nat => ⟨[(33, vi .i64 i), (32, vi .i64 s.tk.length), (10, .c (.ms 1 (fltL (fun i => b.testBit i) i).length)), (9, vi .i64 b), (8, nilO none), (2, .c (.rp (siD s))), (6, .c (.bp 0 0))], [(1, rowv 3 1 r1 0 (fltL (fun i => b.testBit i) i)), (0, .box (diC s t))], 2⟩)
              (fun i => i ≤ s.tk.length) (fun i => s.tk.length - i) 0 [0, 1] (Nat.zero_le _) ?_ ?_
            · (refine qis ?_ ?_ <;> (repeat' first | exact rfl | (refine qS ?_; constructor)))
            · intro i hi
              have hfl := fltL_len (fun i => b.testBit i) i
              have hfs := fltL_succ (fun i => b.testBit i) i
              refine Fork.dec (fun hli => ?_) (fun hli => ?_)
              · have hli : i < s.tk.length := by omega
                have htb := bit_i64 (b := b) (i := i) (by omega) (by omega)
                (repeat' first | (refine Owe.same ?_; first | refine Owe.o ?_ | refine Owe.mk ?_ ?_) | (refine Fork.same ?_; (first | refine fkD ?_ ?_ | refine fkN ?_ ?_ | refine fkM ?_ ?_) <;> intro h) | refine MvQ.stay ?_)
                · have h : decide _ = true := decide_eq_true h
                  rw [htb] at h
                  rw [if_pos h] at hfs
                  refine again (i + 1) [0, 2] hli (by omega) ?_
                  (refine qis ?_ ?_ <;> (repeat' first | exact rfl | (refine qS ?_; constructor)))
                  · rw [hfs]; simp
                  · exact hfs
                · have h : decide _ = false := decide_eq_false h
                  rw [htb] at h
                  rw [if_neg (by rw [h]; decide)] at hfs
                  refine again (i + 1) [0, 1] hli (by omega) ?_
                  (refine qis ?_ ?_ <;> (repeat' first | exact rfl | (refine qS ?_; constructor)))
                  · rw [hfs]
                  · rw [hfs]
              · have : i = s.tk.length := by omega
                subst this
                have hsl : (subL s.tk.length b).length ≤ s.tk.length := hfl
                have c3 := C53b (g := 79) (ds := diD s t) (l := subL s.tk.length b) (f := fun i => decide ((subL s.tk.length b).getD i 0 ∈ t.d)) (fun i hi => C79 ht) (by omega)
                rw [anyN_mem (p := fun n => decide (n ∈ t.d))] at c3
                change PFD Try.prog 53 _ (vbl (dnB t (subL s.tk.length b))) at c3
                have c4 := fun hd => C80 hs.t (subL s.tk.length b).length hO (SetOk.sub (b := b) hd) (Nat.le_refl _)
                change dnB t (subL s.tk.length b) = false → PFD Try.prog 80 _ (vbl (tgB s t (subL s.tk.length b))) at c4
                have hnx : clK s t s.tk.length (b + 1) = if smO (clK s t s.tk.length b) (subL s.tk.length b) = true ∧ clB s t (subL s.tk.length b) = true then some (subL s.tk.length b) else clK s t s.tk.length b := rfl
                rw [← ho] at hnx
                (repeat' first | (refine Owe.same ?_; first | refine Owe.o ?_ | refine Owe.mk ?_ ?_) | (refine Fork.same ?_; (first | refine fkD ?_ ?_ | refine fkN ?_ ?_ | refine fkM ?_ ?_) <;> intro h) | refine MvQ.stay ?_)
                refine OpsL.frz 10 _ rfl rfl (Nat.le_refl _) ?_
                refine OpsL.frz 63 _ rfl rfl (Nat.le_refl _) ?_
                rcases hd : dnB t (subL s.tk.length b) with _ | _
                · rw [hd] at c3
                  have c4 := c4 hd
                  rw [clB, hd] at hnx
                  rcases hg : tgB s t (subL s.tk.length b) with _ | _
                  · rw [hg] at c4 hnx
                    rw [if_pos ⟨rfl, rfl⟩] at hnx
                    (repeat' first | (refine Owe.same ?_; first | refine Owe.o ?_ | refine Owe.mk ?_ ?_) | (refine Fork.same ?_; (first | refine fkY ?_ | refine fkF ?_ | ((first | refine fkD ?_ ?_ | refine fkN ?_ ?_ | refine fkM ?_ ?_) <;> intro h))) | ((first | refine OpsL.same ?_ | refine OpsDL.same ?_); first | refine oK c3 rfl rfl rfl ?_) | refine MvQ.stay ?_)
                    (repeat' first | (refine Owe.same ?_; first | refine Owe.o ?_ | refine Owe.mk ?_ ?_) | (refine Fork.same ?_; (first | refine fkY ?_ | refine fkF ?_ | ((first | refine fkD ?_ ?_ | refine fkN ?_ ?_ | refine fkM ?_ ?_) <;> intro h))) | ((first | refine OpsL.same ?_ | refine OpsDL.same ?_); first | refine oK c4 rfl rfl rfl ?_) | refine MvQ.stay ?_)
                    refine again (b + 1, some (subL s.tk.length b)) [0] ⟨hbl, hnx.symm⟩ (by show N - (b + 1) < N - b; omega) ?_
                    (refine qis ?_ ?_ <;> (repeat' first | exact rfl | (refine qS ?_; constructor)))
                  · rw [hg] at c4 hnx
                    rw [if_neg (by simp)] at hnx
                    (repeat' first | (refine Owe.same ?_; first | refine Owe.o ?_ | refine Owe.mk ?_ ?_) | (refine Fork.same ?_; (first | refine fkY ?_ | refine fkF ?_ | ((first | refine fkD ?_ ?_ | refine fkN ?_ ?_ | refine fkM ?_ ?_) <;> intro h))) | ((first | refine OpsL.same ?_ | refine OpsDL.same ?_); first | refine oK c3 rfl rfl rfl ?_) | refine MvQ.stay ?_)
                    (repeat' first | (refine Owe.same ?_; first | refine Owe.o ?_ | refine Owe.mk ?_ ?_) | (refine Fork.same ?_; (first | refine fkY ?_ | refine fkF ?_ | ((first | refine fkD ?_ ?_ | refine fkN ?_ ?_ | refine fkM ?_ ?_) <;> intro h))) | ((first | refine OpsL.same ?_ | refine OpsDL.same ?_); first | refine oK c4 rfl rfl rfl ?_) | refine MvQ.stay ?_)
                    refine again (b + 1, none) [0] ⟨hbl, hnx.symm⟩ (by show N - (b + 1) < N - b; omega) ?_
                    (refine qis ?_ ?_ <;> (repeat' first | exact rfl | (refine qS ?_; constructor)))
                · rw [hd] at c3
                  rw [clB, hd, if_neg (by simp)] at hnx
                  (repeat' first | (refine Owe.same ?_; first | refine Owe.o ?_ | refine Owe.mk ?_ ?_) | (refine Fork.same ?_; (first | refine fkY ?_ | refine fkF ?_ | ((first | refine fkD ?_ ?_ | refine fkN ?_ ?_ | refine fkM ?_ ?_) <;> intro h))) | ((first | refine OpsL.same ?_ | refine OpsDL.same ?_); first | refine oK c3 rfl rfl rfl ?_) | refine MvQ.stay ?_)
                  refine again (b + 1, none) [0] ⟨hbl, hnx.symm⟩ (by show N - (b + 1) < N - b; omega) ?_
                  (refine qis ?_ ?_ <;> (repeat' first | exact rfl | (refine qS ?_; constructor)))
      · rcases Nat.lt_or_eq_of_le hb with hbl | rfl
        rotate_left
        · rw [← ho] at hq
          have hm := clK_len ho.symm
          (repeat' first | (refine Owe.same ?_; first | refine Owe.o ?_ | refine Owe.mk ?_ ?_) | (refine Fork.same ?_; (first | refine fkY ?_ | refine fkF ?_ | ((first | refine fkD ?_ ?_ | refine fkN ?_ ?_ | refine fkM ?_ ?_) <;> intro h))) | ((first | refine OpsL.same ?_ | refine OpsDL.same ?_); first | refine oK C50 rfl rfl rfl ?_) | refine MvQ.stay ?_)
          subst hq
          (refine rqK rfl ?_; (repeat' first | exact rfl | (refine qS ?_; constructor)))
        · (repeat' first | (refine Owe.same ?_; first | refine Owe.o ?_ | refine Owe.mk ?_ ?_) | (refine Fork.same ?_; (first | refine fkD ?_ ?_ | refine fkN ?_ ?_ | refine fkM ?_ ?_) <;> intro h) | refine MvQ.stay ?_)
          rotate_left
          · rw [hshl] at h; omega
          · refine Sat.nilS 10 3 1 (fun i => r1 (([] : List Int).getD i 0)) rfl ?_
            refine Sat.lp (fun i : Nat => ⟨[(33, vi .i64 i), (32, vi .i64 s.tk.length), (10, .c (.ms 1 (fltL (fun i => b.testBit i) i).length)), (9, vi .i64 b), (8, nilO (some m)), (2, .c (.rp (siD s))), (6, .c (.bp 0 0))], [(1, rowv 3 1 r1 0 (fltL (fun i => b.testBit i) i)), (0, .box (diC s t))], 2⟩)
              (fun i => i ≤ s.tk.length) (fun i => s.tk.length - i) 0 [0, 1] (Nat.zero_le _) ?_ ?_
            · (refine qis ?_ ?_ <;> (repeat' first | exact rfl | (refine qS ?_; constructor)))
            · intro i hi
              have hfl := fltL_len (fun i => b.testBit i) i
              have hfs := fltL_succ (fun i => b.testBit i) i
              refine Fork.dec (fun hli => ?_) (fun hli => ?_)
              · have hli : i < s.tk.length := by omega
                have htb := bit_i64 (b := b) (i := i) (by omega) (by omega)
                (repeat' first | (refine Owe.same ?_; first | refine Owe.o ?_ | refine Owe.mk ?_ ?_) | (refine Fork.same ?_; (first | refine fkD ?_ ?_ | refine fkN ?_ ?_ | refine fkM ?_ ?_) <;> intro h) | refine MvQ.stay ?_)
                · have h : decide _ = true := decide_eq_true h
                  rw [htb] at h
                  rw [if_pos h] at hfs
                  refine again (i + 1) [0, 2] hli (by omega) ?_
                  (refine qis ?_ ?_ <;> (repeat' first | exact rfl | (refine qS ?_; constructor)))
                  · rw [hfs]; simp
                  · exact hfs
                · have h : decide _ = false := decide_eq_false h
                  rw [htb] at h
                  rw [if_neg (by rw [h]; decide)] at hfs
                  refine again (i + 1) [0, 1] hli (by omega) ?_
                  (refine qis ?_ ?_ <;> (repeat' first | exact rfl | (refine qS ?_; constructor)))
                  · rw [hfs]
                  · rw [hfs]
              · have : i = s.tk.length := by omega
                subst this
                have hsl : (subL s.tk.length b).length ≤ s.tk.length := hfl
                have c3 := C53b (g := 79) (ds := diD s t) (l := subL s.tk.length b) (f := fun i => decide ((subL s.tk.length b).getD i 0 ∈ t.d)) (fun i hi => C79 ht) (by omega)
                rw [anyN_mem (p := fun n => decide (n ∈ t.d))] at c3
                change PFD Try.prog 53 _ (vbl (dnB t (subL s.tk.length b))) at c3
                have c4 := fun hd => C80 hs.t (subL s.tk.length b).length hO (SetOk.sub (b := b) hd) (Nat.le_refl _)
                change dnB t (subL s.tk.length b) = false → PFD Try.prog 80 _ (vbl (tgB s t (subL s.tk.length b))) at c4
                have hnx : clK s t s.tk.length (b + 1) = if smO (clK s t s.tk.length b) (subL s.tk.length b) = true ∧ clB s t (subL s.tk.length b) = true then some (subL s.tk.length b) else clK s t s.tk.length b := rfl
                rw [← ho] at hnx
                have hm := clK_len ho.symm
                have c5 := C78 (l := subL s.tk.length b) (m := m) ⟨by omega, by omega⟩
                (repeat' first | (refine Owe.same ?_; first | refine Owe.o ?_ | refine Owe.mk ?_ ?_) | (refine Fork.same ?_; (first | refine fkD ?_ ?_ | refine fkN ?_ ?_ | refine fkM ?_ ?_) <;> intro h) | refine MvQ.stay ?_)
                refine OpsL.frz 10 _ rfl rfl (Nat.le_refl _) ?_
                (repeat' first | (refine Owe.same ?_; first | refine Owe.o ?_ | refine Owe.mk ?_ ?_) | (refine Fork.same ?_; (first | refine fkY ?_ | refine fkF ?_ | ((first | refine fkD ?_ ?_ | refine fkN ?_ ?_ | refine fkM ?_ ?_) <;> intro h))) | ((first | refine OpsL.same ?_ | refine OpsDL.same ?_); first | refine pK C77 rfl rfl ?_ | refine pK c5 rfl rfl ?_ | refine pK C76 rfl rfl ?_) | refine MvQ.stay ?_)
                · have hs1 : smO (some m) (subL s.tk.length b) = true := decide_eq_true h
                  rw [hs1] at hnx
                  rcases hd : dnB t (subL s.tk.length b) with _ | _
                  · rw [hd] at c3
                    have c4 := c4 hd
                    rw [clB, hd] at hnx
                    rcases hg : tgB s t (subL s.tk.length b) with _ | _
                    · rw [hg] at c4 hnx
                      rw [if_pos ⟨rfl, rfl⟩] at hnx
                      (repeat' first | (refine Owe.same ?_; first | refine Owe.o ?_ | refine Owe.mk ?_ ?_) | (refine Fork.same ?_; (first | refine fkY ?_ | refine fkF ?_ | ((first | refine fkD ?_ ?_ | refine fkN ?_ ?_ | refine fkM ?_ ?_) <;> intro h))) | ((first | refine OpsL.same ?_ | refine OpsDL.same ?_); first | refine oK c3 rfl rfl rfl ?_ | refine oK c4 rfl rfl rfl ?_) | refine MvQ.stay ?_)
                      refine again (b + 1, some (subL s.tk.length b)) [0] ⟨hbl, hnx.symm⟩ (by show N - (b + 1) < N - b; omega) ?_
                      (refine qis ?_ ?_ <;> (repeat' first | exact rfl | (refine qS ?_; constructor)))
                    · rw [hg] at c4 hnx
                      rw [if_neg (by simp)] at hnx
                      (repeat' first | (refine Owe.same ?_; first | refine Owe.o ?_ | refine Owe.mk ?_ ?_) | (refine Fork.same ?_; (first | refine fkY ?_ | refine fkF ?_ | ((first | refine fkD ?_ ?_ | refine fkN ?_ ?_ | refine fkM ?_ ?_) <;> intro h))) | ((first | refine OpsL.same ?_ | refine OpsDL.same ?_); first | refine oK c3 rfl rfl rfl ?_ | refine oK c4 rfl rfl rfl ?_) | refine MvQ.stay ?_)
                      refine again (b + 1, some m) [0] ⟨hbl, hnx.symm⟩ (by show N - (b + 1) < N - b; omega) ?_
                      (refine qis ?_ ?_ <;> (repeat' first | exact rfl | (refine qS ?_; constructor)))
                  · rw [hd] at c3
                    rw [clB, hd, if_neg (by simp)] at hnx
                    (repeat' first | (refine Owe.same ?_; first | refine Owe.o ?_ | refine Owe.mk ?_ ?_) | (refine Fork.same ?_; (first | refine fkY ?_ | refine fkF ?_ | ((first | refine fkD ?_ ?_ | refine fkN ?_ ?_ | refine fkM ?_ ?_) <;> intro h))) | ((first | refine OpsL.same ?_ | refine OpsDL.same ?_); first | refine oK c3 rfl rfl rfl ?_) | refine MvQ.stay ?_)
                    refine again (b + 1, some m) [0] ⟨hbl, hnx.symm⟩ (by show N - (b + 1) < N - b; omega) ?_
                    (refine qis ?_ ?_ <;> (repeat' first | exact rfl | (refine qS ?_; constructor)))
                · have hs1 : smO (some m) (subL s.tk.length b) = false := decide_eq_false h
                  rw [hs1, if_neg (by simp)] at hnx
                  refine again (b + 1, some m) [0] ⟨hbl, hnx.symm⟩ (by show N - (b + 1) < N - b; omega) ?_
                  (refine qis ?_ ?_ <;> (repeat' first | exact rfl | (refine qS ?_; constructor)))
  · rw [if_neg h0] at hq
    generalize onE s t = e at *
    subst hq
    refine pi2 fn27 ?_
    (repeat' first | (refine Owe.same ?_; first | refine Owe.o ?_ | refine Owe.mk ?_ ?_) | (refine Fork.same ?_; (first | refine fkY ?_ | refine fkF ?_ | ((first | refine fkD ?_ ?_ | refine fkN ?_ ?_ | refine fkM ?_ ?_) <;> intro h))) | ((first | refine OpsL.same ?_ | refine OpsDL.same ?_); first | refine oK c1 rfl rfl rfl ?_) | refine MvQ.stay ?_)
    (refine rqK rfl ?_; (repeat' first | exact rfl | (refine qS ?_; constructor)))
end Go.Pw

set_option linter.unusedSimpArgs false
set_option linter.unusedVariables false
set_option maxHeartbeats 4000000
namespace Go.Pw
set_option maxRecDepth 2000
open Go Go.Proofs A1 A2 A3 A4
abbrev exSi : Si := ⟨[⟨⟨#[118, 97, 108, 118, 101]⟩, 1, 20, 30, 4, 50, 0, 300, []⟩, ⟨⟨#[112, 114, 111, 98, 101]⟩, 2, 10, 10, 1, 30, 80, 90, []⟩, ⟨⟨#[99, 108, 111, 115, 101]⟩, 1, 10, 20, 2, 40, 0, 400, [0]⟩], [[0, 10, 20], [10, 0, 10], [20, 10, 0]], [30, 40, 50], [(100, 199, 5)], 1, 2, 20, 400⟩
abbrev exSt : St8 := ⟨0, 0, 300, 6, []⟩
abbrev exSt1 : St8 := ⟨1, 30, 250, 2, [0]⟩
theorem PFD.res {P : Program} {f : FuncId} {args : List V} {v v' : V} (h : PFD P f args v) (hr : RI v v') : PFD P f args v' :=
  ⟨h.h.1, h.h.2.1, fun Γ w us h1 h2 h3 => (h.h.2.2 Γ w us h1 h2 h3).mono fun e w' ⟨u, Γ', q1, q2, q3⟩ => ⟨u, Γ', q1, hr _ _ _ q2, q3⟩⟩
theorem DI.nil (s : Nat) (f : Nat → List D) : DI (.v (.slice none 0 0)) (.sl s 0 f) := fun I w u h => by
  cases h; exact .slE _ _ _ _
/-- A slice that was written out. -/
abbrev litD (s : Nat) (l : List (List D)) : D := .sl s l.length fun i => l.getD i []
theorem DI.lit {s : Nat} {l : List (List D)} {g : Nat → List D} (h : ∀ i, i < l.length → DIs (l.getD i []) (g i)) : DI (litD s l) (.sl s l.length g) := DI.sl h
abbrev exRaw : List D := [litD 9 [[.v (.string ⟨#[118, 97, 108, 118, 101]⟩), dI 1, dI 20, dI 30, dI 4, dI 50, dI 0, dI 300, .v (.slice none 0 0)], [.v (.string ⟨#[112, 114, 111, 98, 101]⟩), dI 2, dI 10, dI 10, dI 1, dI 30, dI 80, dI 90, .v (.slice none 0 0)], [.v (.string ⟨#[99, 108, 111, 115, 101]⟩), dI 1, dI 10, dI 20, dI 2, dI 40, dI 0, dI 400, litD 1 [[dI 0]]]],
  litD 1 [[litD 1 [[dI 0], [dI 10], [dI 20]]], [litD 1 [[dI 10], [dI 0], [dI 10]]], [litD 1 [[dI 20], [dI 10], [dI 0]]]], litD 1 [[dI 30], [dI 40], [dI 50]], litD 3 [[dI 100, dI 199, dI 5]], dI 1, dI 2, dI 20, dI 400]
theorem DIs.of {ds es : List D} (h : ds = es) : DIs ds es := h ▸ DIs.refl ds
theorem ex3I {a b c : Int} : DI (litD 1 [[dI a], [dI b], [dI c]]) (intsD [a, b, c]) := DI.sl fun i hi => by
  match i, hi with
  | 0, _ => exact DIs.refl _
  | 1, _ => exact DIs.refl _
  | 2, _ => exact DIs.refl _
theorem C43 : PFD Try.prog 43 [] (siv exSi) := by
  refine PFD.res (v := .agg [.d (litD 9 [[.v (.string ⟨#[118, 97, 108, 118, 101]⟩), dI 1, dI 20, dI 30, dI 4, dI 50, dI 0, dI 300, .v (.slice none 0 0)], [.v (.string ⟨#[112, 114, 111, 98, 101]⟩), dI 2, dI 10, dI 10, dI 1, dI 30, dI 80, dI 90, .v (.slice none 0 0)], [.v (.string ⟨#[99, 108, 111, 115, 101]⟩), dI 1, dI 10, dI 20, dI 2, dI 40, dI 0, dI 400, litD 1 [[dI 0]]]]), .d (litD 1 [[litD 1 [[dI 0], [dI 10], [dI 20]]], [litD 1 [[dI 10], [dI 0], [dI 10]]], [litD 1 [[dI 20], [dI 10], [dI 0]]]]), .d (litD 1 [[dI 30], [dI 40], [dI 50]]), .d (litD 3 [[dI 100, dI 199, dI 5]]), .d (dI 1), .d (dI 2), .d (dI 20), .d (dI 400)]) ?_ (RI.aggI (ds := exRaw) (es := siD exSi) ?_)
  · refine pi1 fn43 ?_
    (repeat' first | (refine Owe.same ?_; first | refine Owe.o ?_ | refine Owe.mk ?_ ?_) | (refine Fork.same ?_; (first | refine fkD ?_ ?_ | refine fkN ?_ ?_ | refine fkM ?_ ?_) <;> intro h) | refine MvQ.stay ?_)
    (refine rqK rfl ?_; (repeat' first | exact rfl | (refine qS ?_; constructor)))
  · refine .cons (DI.sl fun i hi => ?_) (.cons (DI.sl fun i hi => ?_) (.cons ex3I (.cons (DI.sl fun i hi => ?_) (DIs.refl _))))
    · match i, hi with
      | 0, _ => exact .cons (DI.refl _) (.cons (DI.refl _) (.cons (DI.refl _) (.cons (DI.refl _) (.cons (DI.refl _) (.cons (DI.refl _) (.cons (DI.refl _) (.cons (DI.refl _) (.cons (DI.nil _ _) .nil))))))))
      | 1, _ => exact .cons (DI.refl _) (.cons (DI.refl _) (.cons (DI.refl _) (.cons (DI.refl _) (.cons (DI.refl _) (.cons (DI.refl _) (.cons (DI.refl _) (.cons (DI.refl _) (.cons (DI.nil _ _) .nil))))))))
      | 2, _ => exact .cons (DI.refl _) (.cons (DI.refl _) (.cons (DI.refl _) (.cons (DI.refl _) (.cons (DI.refl _) (.cons (DI.refl _) (.cons (DI.refl _) (.cons (DI.refl _) (.cons (DI.sl fun i hi => by
          match i, hi with
          | 0, _ => exact DIs.refl _) .nil))))))))
    · match i, hi with
      | 0, _ => exact .cons ex3I .nil
      | 1, _ => exact .cons ex3I .nil
      | 2, _ => exact .cons ex3I .nil
    · match i, hi with
      | 0, _ => exact DIs.refl _
/-- The same fold, to be calculated. -/
def grS (s : Si) : Nat → St8 → List Int → List Int × Int → List Int × Int
  | 0, _, p, b => updP s p b
  | f + 1, t, p, b => (List.range s.tk.length).foldl (fun b (k : Nat) => if spE s t (k : Int) = 0 then grS s f (spS s t (k : Int)) (p ++ [(k : Int)]) b else b) (updP s p b)
theorem grS_eq {s : Si} : ∀ (f : Nat) (t : St8) (p : List Int) (b : List Int × Int), grwF s f t p b = grS s f t p b
  | 0, t, p, b => by rw [grwF, grS]
  | f + 1, t, p, b => by
    have key : ∀ k, grwK s f t p (updP s p b) k = (List.range k).foldl (fun b (k : Nat) => if spE s t (k : Int) = 0 then grS s f (spS s t (k : Int)) (p ++ [(k : Int)]) b else b) (updP s p b) := fun k => by
      induction k with
      | zero => rw [grwK]; rfl
      | succ k ih =>
        rw [grwK, List.range_succ, List.foldl_append, ← ih, grS_eq f]
        rfl
    rw [grwF, grS, key]
theorem C44 : PFD Try.prog 44 [] (stv exSt) := by
  refine pi1 fn44 ?_
  (repeat' first | (refine Owe.same ?_; first | refine Owe.o ?_ | refine Owe.mk ?_ ?_) | (refine Fork.same ?_; (first | refine fkD ?_ ?_ | refine fkN ?_ ?_ | refine fkM ?_ ?_) <;> intro h) | refine MvQ.stay ?_)
  (refine rqK rfl ?_; (repeat' first | exact rfl | (refine qS ?_; constructor)))
theorem exSm : SiSm exSi := ⟨by decide, by decide, by decide, by decide, by decide, by decide⟩
theorem ex1 : sbE exSi exSt 0 = 0 := by decide +kernel
theorem ex2 : sameB (spS exSi exSt 0) exSt1 = true := by decide +kernel
theorem ex3 : lrE exSi exSt1 = (170, 0) := by decide +kernel
theorem ex4 : orE exSi exSt = 0 := by decide +kernel
theorem ex5 : bestP exSi exSt = ([0, 2], 90) := by
  rw [bestP, grS_eq]; decide +kernel
theorem ex6 : clE exSi exSt = ([0, 1, 2], 0) := by decide +kernel
theorem C9 : PFD Try.prog 9 [] (vbl true) := by
  have c1 := C41 (s := exSi) (t := exSt) (n := 0) ⟨exSm, by decide⟩
  rw [ex1, if_pos rfl] at c1
  have c2 := C20 (s := exSi) (t := exSt1) ⟨exSm, by decide⟩
  rw [ex3] at c2
  have c3 := C45 (s := exSi) (t := exSt) ⟨exSm, by decide⟩
  rw [ex4, if_pos rfl, if_pos rfl, ex5] at c3
  have c4 := C27 (s := exSi) (t := exSt) ⟨exSm, by decide⟩
  rw [ex6] at c4
  have hl : (spS exSi exSt 0).d.length < 4611686018427387904 := by decide +kernel
  have c5 := C40 (a := spS exSi exSt 0) (b := exSt1) hl
  rw [ex2] at c5
  have c6 := C46 (l := [0, 2]) (m := [0, 2]) (by decide)
  have c7 := C46 (l := [0, 1, 2]) (m := [0, 1, 2]) (by decide)
  rw [decide_eq_true rfl] at c6 c7
  generalize spS exSi exSt 0 = X at *
  refine pi1 fn9 ?_
  (repeat' first | (refine Owe.same ?_; first | refine Owe.o ?_ | refine Owe.mk ?_ ?_) | (refine Fork.same ?_; (first | refine fkY ?_ | refine fkF ?_ | ((first | refine fkD ?_ ?_ | refine fkN ?_ ?_ | refine fkM ?_ ?_) <;> intro h))) | ((first | refine OpsL.same ?_ | refine OpsDL.same ?_); first | refine pK C43 rfl rfl ?_ | refine pK C44 rfl rfl ?_ | refine pK c1 rfl rfl ?_ | refine pK c2 rfl rfl ?_ | refine pK c3 rfl rfl ?_ | refine pK c4 rfl rfl ?_ | refine pK c5 rfl rfl ?_) | refine MvQ.stay ?_)
  ((first | refine OpsL.same ?_ | refine OpsDL.same ?_); first | refine pK c6 rfl rfl ?_)
  (repeat' first | (refine Owe.same ?_; first | refine Owe.o ?_ | refine Owe.mk ?_ ?_) | (refine Fork.same ?_; (first | refine fkY ?_ | refine fkF ?_ | ((first | refine fkD ?_ ?_ | refine fkN ?_ ?_ | refine fkM ?_ ?_) <;> intro h))) | ((first | refine OpsL.same ?_ | refine OpsDL.same ?_); first | refine oK C43 rfl rfl rfl ?_) | refine MvQ.stay ?_)
  ((first | refine OpsL.same ?_ | refine OpsDL.same ?_); first | refine pK c7 rfl rfl ?_)
  (repeat' first | (refine Owe.same ?_; first | refine Owe.o ?_ | refine Owe.mk ?_ ?_) | (refine Fork.same ?_; (first | refine fkY ?_ | refine fkF ?_ | ((first | refine fkD ?_ ?_ | refine fkN ?_ ?_ | refine fkM ?_ ?_) <;> intro h))) | ((first | refine OpsL.same ?_ | refine OpsDL.same ?_); first | refine oK C43 rfl rfl rfl ?_) | refine MvQ.stay ?_)
  (refine rqK rfl ?_; (repeat' first | exact rfl | (refine qS ?_; constructor)))
end Go.Pw

set_option linter.unusedVariables false
set_option maxHeartbeats 2000000
set_option maxRecDepth 100000
namespace Go.Pw
open Go Go.Proofs
/-- (moonpool/dive.dive).carried -/
def lc82m : LCode :=
  (.seq (.region [⟨some 2, .boxS (.tmp 0), none⟩, ⟨some 4, .mv (.const (.slice none 0 0)), none⟩, ⟨some 5, .mv (.const (.int .i64 0)), none⟩]) (.seq (.region [⟨some 11, .load true
    13 (.tmp 2), none⟩, ⟨some 12, .lit true 111 13 [(.tmp 11)], none⟩, ⟨some 6, .mv (.tmp 12), none⟩]) (.seq (.seq (.region [⟨some 13, .mv (.tmp 1), none⟩, ⟨some 14, .len (.tmp 13),
    none⟩, ⟨some 15, .mv (.const (.int .i64 0)), none⟩]) (.block 0 (.loop (.seq (.region [⟨some 16, .bin .lss (.tmp 15) (.tmp 14), none⟩]) (.seq (.cond (.tmp 16) .skip (.exit 0))
    (.seq (.block 1 (.seq (.region [⟨some 17, .idx 1 (.tmp 13) (.tmp 15), none⟩, ⟨some 18, .load false 1 (.tmp 17), none⟩, ⟨some 8, .mv (.tmp 18), none⟩]) (.seq (.region [⟨some 20,
    .mv (.tmp 6), none⟩, ⟨some 21, .mv (.tmp 6), none⟩, ⟨some 22, .len (.tmp 21), none⟩, ⟨some 23, .bin .sub (.tmp 22) (.const (.int .i64 1)), none⟩, ⟨some 24, .idx 13 (.tmp 20)
    (.tmp 23), none⟩, ⟨some 25, .load true 13 (.tmp 24), none⟩, ⟨some 26, .mv (.tmp 8), none⟩, ⟨some 27, .call (.func 89) [(.tmp 25), (.tmp 26)], none⟩, ⟨some 19, .mv (.tmp 27),
    none⟩, ⟨some 28, .ext (.tmp 19) 0, none⟩, ⟨some 29, .ext (.tmp 19) 1, none⟩, ⟨some 9, .alloc [(.slice none 0 0), (.slice none 0 0), (.slice none 0 0), (.slice none 0 0), (.int
    .i64 0), (.int .i64 0), (.int .i64 0), (.int .i64 0), (.int .i64 0), (.int .i64 0), (.int .i64 0), (.int .i64 0), (.slice none 0 0)], none⟩, ⟨none, .store 13 (.tmp 9) (.tmp 28),
    none⟩, ⟨some 10, .mv (.tmp 29), none⟩]) (.seq (.seq (.region [⟨some 30, .mv (.tmp 10), none⟩, ⟨some 31, .bin .neq (.tmp 30) (.const (.int .i64 0)), none⟩]) (.cond (.tmp 31)
    (.seq (.region [⟨some 32, .mv (.tmp 6), none⟩, ⟨some 33, .mv (.tmp 10), none⟩, ⟨some 4, .mv (.tmp 32), none⟩, ⟨some 5, .mv (.tmp 33), none⟩]) .ret) .skip)) (.region [⟨some 34,
    .mv (.tmp 6), none⟩, ⟨some 35, .load true 13 (.tmp 9), none⟩, ⟨some 36, .lit false 111 13 [(.tmp 35)], none⟩, ⟨some 37, .append true 111 13 184 (.tmp 34) (.tmp 36), none⟩, ⟨some
    6, .mv (.tmp 37), none⟩]))))) (.region [⟨some 38, .bin .add (.tmp 15) (.const (.int .i64 1)), none⟩, ⟨some 15, .mv (.tmp 38), none⟩]))))))) (.seq (.region [⟨some 39, .mv (.tmp
    6), none⟩, ⟨some 4, .mv (.tmp 39), none⟩, ⟨some 5, .mv (.const (.int .i64 0)), none⟩]) .ret))))
theorem low82m : lowF Try.prog [2, 12, 37] Try.f82 = some (40, lc82m.strip, [.tmp 4, .tmp 5]) := by kernel_rfl
theorem fn82m : FnOk Try.prog 82 40 lc82m [.tmp 4, .tmp 5] := ⟨Try.call82, [2, 12, 37], _, Try.func82, low82m⟩
end Go.Pw

set_option linter.unusedSimpArgs false
set_option linter.unusedVariables false
set_option maxHeartbeats 4000000
namespace Go.Pw
set_option maxRecDepth 2000
open Go Go.Proofs A1 A2 A3 A4
/-- The states of a plan, one by one, and the error of each step. -/
def stK (s : Si) (t : St8) (l : List Int) : Nat → St8
  | 0 => t
  | k + 1 => spS s (stK s t l k) (l.getD k 0)
def sfK (s : Si) (t : St8) (l : List Int) (k : Nat) : Int := spE s (stK s t l k) (l.getD k 0)
/-- The first step with an error. -/
def prE (s : Si) (t : St8) (l : List Int) : Int × Int := eachN (sfK s t l) 0 l.length
theorem stK_ok {s : Si} {t : St8} {l : List Int} (h : OnOk s t) : ∀ {k : Nat}, (∀ i, i < k → sfK s t l i = 0) → OnOk s (stK s t l k)
  | 0, _ => h
  | k + 1, hk => by
    have ih := stK_ok h (k := k) fun i hi => hk i (by omega)
    obtain ⟨⟨e, _⟩, h1, _⟩ := spS_ok ih (hk k (by omega))
    rw [stK, e]; exact h1
abbrev divs (s : Si) (l : List St8) : C := slv 13 (diD s) st0 l
theorem C82 {s : Si} {t : St8} {l : List Int} : (OnOk s t ∧ TkSm s.tk ∧ l.length ≤ 1000) → PFD Try.prog 82 [div s t, .c (ints l)] (.tup [.c (divs s (accL (stK s t l) (if (prE s t l).2 = 0 then l.length + 1 else (prE s t l).1.toNat + 1))), vi .i64 (prE s t l).2]) := fun ⟨hO, hs, hl⟩ => by
  obtain ⟨q, hq⟩ : ∃ q, q = prE s t l := ⟨_, rfl⟩
  rw [← hq]
  rw [prE] at hq
  refine pi2 fn82m ?_
  (repeat' first | (refine Owe.same ?_; first | refine Owe.o ?_ | refine Owe.mk ?_ ?_) | (refine Fork.same ?_; (first | refine fkD ?_ ?_ | refine fkN ?_ ?_ | refine fkM ?_ ?_) <;> intro h) | refine MvQ.stay ?_)
  refine Sat.lp (fun k : Nat => ⟨[(15, vi .i64 k), (14, vi .i64 l.length), (13, .c (ints l)), (6, .c (.ms 0 (accL (stK s t l) (k + 1)).length)), (1, .c (ints l)), (2, .c (.rp (diD s t)))], [(0, rowv 111 13 (diD s) st0 (accL (stK s t l) (k + 1)))], 1⟩) (fun k => k ≤ l.length ∧ ∀ i, i < k → sfK s t l i = 0) (fun k => l.length - k) 0 [0] ⟨Nat.zero_le _, fun i hi => by omega⟩ ?_ ?_
  · (refine qis ?_ ?_ <;> (repeat' first | exact rfl | (refine qS ?_; constructor)))
  · intro k hk
    have hkl : (accL (stK s t l) (k + 1)).length = k + 1 := accL_len _ _
    refine Fork.dec (fun hlt => ?_) (fun hlt => ?_)
    · have hlt : k < l.length := by omega
      have hOk := stK_ok hO hk.2
      have e : (accL (stK s t l) (k + 1)).getD ((((accL (stK s t l) (k + 1)).length : Nat) : Int) - 1).toNat st0 = stK s t l k := by
        rw [show ((((accL (stK s t l) (k + 1)).length : Nat) : Int) - 1).toNat = k by omega, List.getD_eq_getElem?_getD]
        simp [accL]
      have c1 := C89 (s := s) (t := stK s t l k) (n := l.getD k 0) ⟨hOk, by have := hOk.dl; have := hOk.ok.n; omega, hs⟩
      have hsf : sfK s t l k = spE s (stK s t l k) (l.getD k 0) := rfl
      have hst : stK s t l (k + 1) = spS s (stK s t l k) (l.getD k 0) := rfl
      have hac : accL (stK s t l) (k + 1 + 1) = accL (stK s t l) (k + 1) ++ [spS s (stK s t l k) (l.getD k 0)] := accL_succ _ _
      generalize spE s (stK s t l k) (l.getD k 0) = E at *
      generalize spS s (stK s t l k) (l.getD k 0) = X at *
      rw [← e] at c1
      (repeat' first | (refine Owe.same ?_; first | refine Owe.o ?_ | refine Owe.mk ?_ ?_) | (refine Fork.same ?_; (first | refine fkD ?_ ?_ | refine fkN ?_ ?_ | refine fkM ?_ ?_) <;> intro h) | ((first | refine OpsL.same ?_ | refine OpsDL.same ?_); first | refine pK c1 rfl rfl ?_) | refine MvQ.stay ?_)
      · have hq : q = ((k : Int), E) := by
          rw [hq, eachN_e hlt hk.2 (by rw [hsf]; exact h), hsf]
        subst hq
        have he : (accL (stK s t l) (if ((k : Int), E).2 = 0 then l.length + 1 else ((k : Int), E).1.toNat + 1)) = accL (stK s t l) (k + 1) := by
          rw [if_neg h]; rfl
        rw [he]
        refine rqF 0 _ rfl rfl rfl ?_; (repeat' first | exact rfl | (refine qS ?_; constructor))
      · have hz : sfK s t l k = 0 := hsf.trans h
        refine again (k + 1) [2] ⟨hlt, succ_all hk.2 hz⟩ (by omega) ?_
        rw [hac]
        (refine qis ?_ ?_ <;> (repeat' first | exact rfl | (refine qS ?_; constructor)))
        · simp
        · exact ⟨X, rfl, rfl⟩
    · have : k = l.length := by omega
      subst this
      rw [eachN_z hk.2] at hq
      subst hq
      (repeat' first | (refine Owe.same ?_; first | refine Owe.o ?_ | refine Owe.mk ?_ ?_) | (refine Fork.same ?_; (first | refine fkD ?_ ?_ | refine fkN ?_ ?_ | refine fkM ?_ ?_) <;> intro h) | refine MvQ.stay ?_)
      refine rqF 0 _ rfl rfl rfl ?_; (repeat' first | exact rfl | (refine qS ?_; constructor))
theorem prE_tk {s : Si} {t : St8} {l : List Int} (hO : OnOk s t) (h : (prE s t l).2 = 0) : tkNs s l := fun k hk => by
  have h1 := eachN_ok.1 h
  have h2 := spS_ok (stK_ok hO (k := k) fun i hi => h1 i (by omega)) (h1 k hk)
  have := h2.1.2.2.2
  omega
def cpE (s : Si) (t : St8) (l : List Int) : Int × Int := if onE s t = 0 then (if (prE s t l).2 = 0 then (vaI s l, 0) else prE s t l) else (0, onE s t)
theorem eachN_i {f : Nat → Int} {n : Nat} (h : ¬ (eachN f 0 n).2 = 0) : ∃ k : Nat, k < n ∧ (∀ i, i < k → f i = 0) ∧ eachN f 0 n = ((k : Int), f k) := by
  have hex : ∀ n, (¬ ∀ k, k < n → f k = 0) → ∃ k, k < n ∧ (∀ i, i < k → f i = 0) ∧ ¬ f k = 0 := fun n => by
    induction n with
    | zero => intro h; exact absurd (fun k hk => by omega) h
    | succ n ih =>
      intro h
      by_cases h1 : ∀ k, k < n → f k = 0
      · by_cases h2 : f n = 0
        · exact absurd (succ_all h1 h2) h
        · exact ⟨n, Nat.lt_succ_self _, h1, h2⟩
      · obtain ⟨k, h2, h3⟩ := ih h1
        exact ⟨k, by omega, h3⟩
  obtain ⟨k, h1, h2, h3⟩ := hex n fun hh => h (eachN_ok.2 hh)
  exact ⟨k, h1, h2, eachN_e h1 h2 h3⟩
theorem C31 {s : Si} {t : St8} {l : List Int} : (SiSm s ∧ t.d.length ≤ 1000 ∧ l.length ≤ 1000) → PFD Try.prog 31 [siv s, stv t, .c (ints l)] (.tup [vi .i64 (cpE s t l).1, vi .i64 (cpE s t l).2]) := fun ⟨hs, hd, hl⟩ => by
  have c1 := C70 (s := s) (t := t) ⟨hs, by omega⟩
  obtain ⟨q, hq⟩ : ∃ q, q = cpE s t l := ⟨_, rfl⟩
  rw [← hq]
  rw [cpE] at hq
  by_cases h0 : onE s t = 0
  rotate_left
  · rw [if_neg h0] at hq
    generalize onE s t = e at *
    subst hq
    refine pi2 fn31 ?_
    (repeat' first | (refine Owe.same ?_; first | refine Owe.o ?_ | refine Owe.mk ?_ ?_) | (refine Fork.same ?_; (first | refine fkY ?_ | refine fkF ?_ | ((first | refine fkD ?_ ?_ | refine fkN ?_ ?_ | refine fkM ?_ ?_) <;> intro h))) | ((first | refine OpsL.same ?_ | refine OpsDL.same ?_); first | refine oK c1 rfl rfl rfl ?_) | refine MvQ.stay ?_)
    (refine rqK rfl ?_; (repeat' first | exact rfl | (refine qS ?_; constructor)))
  rw [if_pos h0] at hq
  rw [h0] at c1
  have hO := OnOk.of h0
  have c2 := C82 (s := s) (t := t) (l := l) ⟨hO, hs.t, hl⟩
  by_cases h1 : (prE s t l).2 = 0
  · rw [if_pos h1] at hq
    rw [if_pos h1, h1] at c2
    have c3 := C83 (s := s) (l := l) ⟨hO.ok, prE_tk hO h1, hl⟩
    generalize vaI s l = v at *
    generalize accL (stK s t l) (l.length + 1) = L at *
    subst hq
    refine pi2 fn31 ?_
    (repeat' first | (refine Owe.same ?_; first | refine Owe.o ?_ | refine Owe.mk ?_ ?_) | (refine Fork.same ?_; (first | refine fkY ?_ | refine fkF ?_ | ((first | refine fkD ?_ ?_ | refine fkN ?_ ?_ | refine fkM ?_ ?_) <;> intro h))) | ((first | refine OpsL.same ?_ | refine OpsDL.same ?_); first | refine oK c1 rfl rfl rfl ?_ | refine oK c2 rfl rfl rfl ?_ | refine oK c3 rfl rfl rfl ?_) | refine MvQ.stay ?_)
    (refine rqK rfl ?_; (repeat' first | exact rfl | (refine qS ?_; constructor)))
  · rw [if_neg h1] at hq
    rw [if_neg h1] at c2
    obtain ⟨k, k1, k2, k3⟩ := eachN_i h1
    have k3 : prE s t l = ((k : Int), sfK s t l k) := k3
    rw [k3] at hq c2 h1
    have hL : (accL (stK s t l) (((k : Int), sfK s t l k).1.toNat + 1)).length = k + 1 := accL_len _ _
    generalize accL (stK s t l) (((k : Int), sfK s t l k).1.toNat + 1) = L at *
    generalize sfK s t l k = e at *
    subst hq
    refine pi2 fn31 ?_
    (repeat' first | (refine Owe.same ?_; first | refine Owe.o ?_ | refine Owe.mk ?_ ?_) | (refine Fork.same ?_; (first | refine fkY ?_ | refine fkF ?_ | ((first | refine fkD ?_ ?_ | refine fkN ?_ ?_ | refine fkM ?_ ?_) <;> intro h))) | ((first | refine OpsL.same ?_ | refine OpsDL.same ?_); first | refine oK c1 rfl rfl rfl ?_ | refine oK c2 rfl rfl rfl ?_) | refine MvQ.stay ?_)
    (refine rqK rfl ?_; (repeat' first | exact rfl | (refine qS ?_; constructor)))
    all_goals (try omega)
end Go.Pw

set_option linter.unusedSimpArgs false
set_option linter.unusedVariables false
set_option maxHeartbeats 4000000
namespace Go.Pw
set_option maxRecDepth 2000
open Go Go.Proofs A1 A2 A3 A4
end Go.Pw

set_option linter.unusedSimpArgs false
set_option linter.unusedVariables false
set_option maxHeartbeats 4000000
namespace Go.Pw
set_option maxRecDepth 2000
open Go Go.Proofs A1 A2 A3 A4
end Go.Pw

set_option linter.unusedSimpArgs false
set_option linter.unusedVariables false
set_option maxHeartbeats 4000000
namespace Go.Pw
set_option maxRecDepth 2000
open Go Go.Proofs A1 A2 A3 A4
theorem OnOk.on {s : Si} {t : St8} (h : OnOk s t) (h0 : (siE s).2 = 0) : onE s t = 0 := by
  rw [onE_eq h0, rsE, if_pos (by have := h.pl; omega), if_pos ⟨⟨h.tm, h.en⟩, h.oil⟩]
  exact h.d
theorem nx_facts {s : Si} {t : St8} {n : Int} (h : OnOk s t) (he : spE s t n = 0) :
    (OnOk s (spS s t n) ∧ reB s (spS s t n) = true) ∧ t.t ≤ (spS s t n).t ∧ (spS s t n).w ≤ t.w ∧ (spS s t n).o ≤ t.o ∧ (spS s t n).d.length = t.d.length + 1 ∧ n ∉ t.d ∧ ∀ m, m ∈ (spS s t n).d ↔ m = n ∨ m ∈ t.d := by
  obtain ⟨⟨e, h1, h2, h3⟩, h4, h5⟩ := spS_ok h he
  rw [e]
  have hB := (h.ok.t n.toNat (by omega)).b
  have hsw := trT_bd (p := (tkA s n).p) h
  have h7 := h.ok.e
  obtain ⟨b5, b6, b7, b8, b9, b10⟩ := hB
  have m2 : 0 ≤ trT s t (tkA s n).p * s.swim := Int.mul_nonneg hsw.1 (by omega)
  have m3 : 0 ≤ (max (t.t + trT s t (tkA s n).p) (tkA s n).lo - (t.t + trT s t (tkA s n).p)) * s.idle := Int.mul_nonneg (by omega) (by omega)
  rw [spF, fst2, unb_ok (by decide), unb_ok (by decide)] at h2
  have hx : n ∉ t.d := by simpa using h2.1
  have hr : reB s (nxS s t n) = true := by
    rw [nxE, nxF, fst3, unl0 (by decide), unl0 (by decide), unb_ok (by decide)] at h1
    exact h1.2.2
  refine ⟨⟨h4, hr⟩, ?_, ?_, ?_, h5, hx, fun m => insI_mem⟩
  · show t.t ≤ max (t.t + trT s t (tkA s n).p) (tkA s n).lo + (tkA s n).d
    simp only [tkA] at *
    omega
  · show t.w - (trT s t (tkA s n).p * s.swim + (max (t.t + trT s t (tkA s n).p) (tkA s n).lo - (t.t + trT s t (tkA s n).p)) * s.idle + (tkA s n).w) ≤ t.w
    simp only [tkA] at *
    omega
  · show t.o - (tkA s n).o ≤ t.o
    simp only [tkA] at *
    omega
theorem stK_drop {s : Si} {t : St8} {l : List Int} (i : Nat) : ∀ j, stK s (stK s t l i) (l.drop i) j = stK s t l (i + j)
  | 0 => rfl
  | j + 1 => by
    rw [stK, stK_drop i j, ← Nat.add_assoc, stK]
    congr 1
    simp only [List.getD_eq_getElem?_getD, List.getElem?_drop]
theorem cpE_0 {s : Si} {t : St8} {l : List Int} (h0 : onE s t = 0) (h : (prE s t l).2 = 0) : (cpE s t l).2 = 0 := by rw [cpE, if_pos h0, if_pos h]
theorem stK_mem {s : Si} {t : St8} {l : List Int} (hO : OnOk s t) (h : ∀ j, j < l.length → sfK s t l j = 0) : ∀ i j, i < j → j ≤ l.length → l.getD i 0 ∈ (stK s t l j).d := fun i j => by
  induction j with
  | zero => intro h1; omega
  | succ j ih =>
    intro h1 h2
    have h3 := (nx_facts (stK_ok hO (k := j) fun k hk => h k (by omega)) (h j (by omega))).2.2.2.2.2.2
    rw [stK, h3]
    rcases Nat.lt_succ_iff_lt_or_eq.1 h1 with h4 | rfl
    · exact .inr (ih h4 (by omega))
    · exact .inl rfl
theorem prE_nu {s : Si} {t : St8} {l : List Int} (hO : OnOk s t) (h : (prE s t l).2 = 0) : nuE s l = 0 := by
  have h1 := eachN_ok.1 h
  rw [nuE_ok]
  refine ⟨prE_tk hO h, ?_⟩
  rw [List.nodup_iff_pairwise_ne, List.pairwise_iff_getElem]
  intro i j hi hj hij e
  have h3 := (nx_facts (stK_ok hO (k := j) fun k hk => h1 k (by omega)) (h1 j hj)).2.2.2.2.2.1
  have h4 := stK_mem hO h1 i j hij (by omega)
  have ei : l.getD i 0 = l[i] := by rw [List.getD_eq_getElem?_getD, List.getElem?_eq_getElem hi]; rfl
  have ej : l.getD j 0 = l[j] := by rw [List.getD_eq_getElem?_getD, List.getElem?_eq_getElem hj]; rfl
  rw [ej, ← e, ← ei] at h3
  exact h3 h4
end Go.Pw

set_option linter.unusedSimpArgs false
set_option linter.unusedVariables false
set_option maxHeartbeats 4000000
namespace Go.Pw
set_option maxRecDepth 2000
open Go Go.Proofs A1 A2 A3 A4
theorem bits_of (p : Nat → Bool) : ∀ n, ∃ b, b < 2 ^ n ∧ ∀ j, j < n → b.testBit j = p j
  | 0 => ⟨0, by decide, fun j hj => by omega⟩
  | n + 1 => by
    obtain ⟨b, h1, h2⟩ := bits_of p n
    by_cases hp : p n = true
    · refine ⟨2 ^ n + b, by rw [Nat.pow_succ]; omega, fun j hj => ?_⟩
      rcases Nat.lt_succ_iff_lt_or_eq.1 hj with h3 | rfl
      · rw [Nat.testBit_two_pow_add_gt h3]; exact h2 j h3
      · rw [Nat.testBit_two_pow_add_eq, Nat.testBit_lt_two_pow h1, hp]; rfl
    · refine ⟨b, by rw [Nat.pow_succ]; omega, fun j hj => ?_⟩
      rcases Nat.lt_succ_iff_lt_or_eq.1 hj with h3 | rfl
      · exact h2 j h3
      · rw [Nat.testBit_lt_two_pow h1]; simpa using hp
theorem fltL_congr {f g : Nat → Bool} {n : Nat} (h : ∀ i, i < n → f i = g i) : fltL f n = fltL g n := by
  rw [fltL, fltL]
  congr 1
  exact List.filter_congr fun i hi => h i (List.mem_range.1 hi)
theorem subL_of (p : Nat → Bool) (n : Nat) : ∃ b, b < 2 ^ n ∧ subL n b = fltL p n := by
  obtain ⟨b, h1, h2⟩ := bits_of p n
  exact ⟨b, h1, fltL_congr h2⟩
theorem split_at {l : List Int} {k : Nat} (hk : k < l.length) : l = l.take k ++ l.getD k 0 :: l.drop (k + 1) := by
  rw [List.getD_eq_getElem?_getD, List.getElem?_eq_getElem hk]
  show l = l.take k ++ l[k] :: l.drop (k + 1)
  rw [← List.drop_eq_getElem_cons hk, List.take_append_drop]
theorem wo_filter {l : List Int} {k : Nat} (h : l.Nodup) (hk : k < l.length) : wo l k = l.filter fun x => decide (x ≠ l.getD k 0) := by
  have hn := wo_not h hk
  obtain ⟨x, hx⟩ : ∃ x, x = l.getD k 0 := ⟨_, rfl⟩
  have e := split_at hk
  rw [← hx] at e hn ⊢
  have hw : wo l k = l.take k ++ l.drop (k + 1) := rfl
  rw [hw] at hn ⊢
  conv => rhs; rw [e]
  rw [List.filter_append, List.filter_cons_of_neg (by simp)]
  have h1 : ∀ y ∈ l.take k, decide (y ≠ x) = true := fun y hy => decide_eq_true fun e => hn (e ▸ List.mem_append_left _ hy)
  have h2 : ∀ y ∈ l.drop (k + 1), decide (y ≠ x) = true := fun y hy => decide_eq_true fun e => hn (e ▸ List.mem_append_right _ hy)
  rw [List.filter_eq_self.2 h1, List.filter_eq_self.2 h2]
theorem wo_sub {n b k : Nat} (hk : k < (subL n b).length) : ∃ b', b' < 2 ^ n ∧ subL n b' = wo (subL n b) k := by
  obtain ⟨b', h1, h2⟩ := subL_of (fun i => b.testBit i && decide ((i : Int) ≠ (subL n b).getD k 0)) n
  refine ⟨b', h1, ?_⟩
  rw [h2, wo_filter subL_nd hk]
  generalize (subL n b).getD k 0 = x
  rw [subL, fltL, fltL, List.filter_map, List.filter_filter]
  congr 1
  refine List.filter_congr fun i _ => ?_
  simp only [Function.comp]
  rw [Bool.and_comm]
theorem fst_le {a b c : Int} (h : fstE [cmpI a b, c] < 0) : a ≤ b := by
  rcases Int.lt_trichotomy a b with h1 | h1 | h1
  · omega
  · omega
  · rw [cmpI, if_neg (by omega), if_pos h1, fstE, if_neg (by decide)] at h
    omega
theorem fst_lt {a b c : Int} (h : a < b) : fstE [cmpI a b, c] < 0 := by
  rw [cmpI, if_pos h, fstE, if_neg (by decide)]; decide
theorem clK_some {s : Si} {t : St8} {n : Nat} : ∀ {N : Nat} {l : List Int}, clK s t n N = some l → (∃ b, b < N ∧ l = subL n b) ∧ clB s t l = true ∧ ∀ b, b < N → clB s t (subL n b) = true → l.length ≤ (subL n b).length
  | 0, l, h => by cases h
  | N + 1, l, h => by
    rw [clK] at h
    split at h
    · rename_i hh
      cases h
      refine ⟨⟨N, Nat.lt_succ_self _, rfl⟩, hh.2, fun b hb hc => ?_⟩
      rcases Nat.lt_succ_iff_lt_or_eq.1 hb with h3 | rfl
      · rcases ho : clK s t n N with _ | m
        · have : clK s t n N = none := ho
          have hall : ∀ {N b}, clK s t n N = none → b < N → clB s t (subL n b) = false := fun {N} => by
            induction N with
            | zero => intro b _ hb; omega
            | succ N ih =>
              intro b h4 h5
              rw [clK] at h4
              split at h4
              · cases h4
              · rename_i h6
                rcases Nat.lt_succ_iff_lt_or_eq.1 h5 with h7 | rfl
                · exact ih h4 h7
                · rcases hcb : clB s t (subL n b) with _ | _
                  · rfl
                  · exact absurd ⟨by rw [h4], hcb⟩ h6
          rw [hall this h3] at hc; cases hc
        · have h4 := (clK_some ho).2.2 b h3 hc
          have h5 := hh.1
          rw [ho] at h5
          have h5 := of_decide_eq_true h5
          have := fst_le h5
          omega
      · exact Nat.le_refl _
    · rename_i hh
      obtain ⟨⟨b, h1, h2⟩, h3, h4⟩ := clK_some h
      refine ⟨⟨b, by omega, h2⟩, h3, fun c hb hc => ?_⟩
      rcases Nat.lt_succ_iff_lt_or_eq.1 hb with h5 | rfl
      · exact h4 c h5 hc
      · rcases Nat.lt_or_ge (subL n c).length l.length with h6 | h6
        · refine absurd ⟨?_, hc⟩ hh
          rw [h]
          refine decide_eq_true ?_
          exact fst_lt (by omega)
        · exact h6
theorem clK_none {s : Si} {t : St8} {n : Nat} : ∀ {N b : Nat}, clK s t n N = none → b < N → clB s t (subL n b) = false
  | 0, b, _, hb => by omega
  | N + 1, b, h4, h5 => by
    rw [clK] at h4
    split at h4
    · cases h4
    · rename_i h6
      rcases Nat.lt_succ_iff_lt_or_eq.1 h5 with h7 | rfl
      · exact clK_none h4 h7
      · rcases hcb : clB s t (subL n b) with _ | _
        · rfl
        · exact absurd ⟨by rw [h4], hcb⟩ h6
theorem acc_not {s : Si} {t : St8} {l : List Int} (hO : OnOk s t) (h : ∀ j, j < l.length → sfK s t l j = 0) : ∀ j, j < l.length → (∀ x ∈ t.d, x ∈ (stK s t l j).d) ∧ l.getD j 0 ∉ t.d := fun j hj => by
  have hsub : ∀ j, j < l.length → ∀ x ∈ t.d, x ∈ (stK s t l j).d := fun j => by
    induction j with
    | zero => intro _ x hx; exact hx
    | succ j ih =>
      intro hj x hx
      have h3 := (nx_facts (stK_ok hO (k := j) fun k hk => h k (by omega)) (h j (by omega))).2.2.2.2.2.2
      rw [stK, h3]
      exact .inr (ih (by omega) x hx)
  refine ⟨hsub j hj, fun hm => ?_⟩
  have h3 := (nx_facts (stK_ok hO (k := j) fun k hk => h k (by omega)) (h j hj)).2.2.2.2.2.1
  exact h3 (hsub j hj _ hm)
theorem togB_perm {s : Si} : ∀ (l : List Int) {t : St8} {m : List Int}, OnOk s t → (∀ j, j < l.length → sfK s t l j = 0) → m.Perm l → togB s m.length t m = true
  | [], t, m, _, _, hp => by
    obtain rfl := hp.eq_nil
    rfl
  | n :: l, t, m, hO, h, hp => by
    have hm : n ∈ m := hp.mem_iff.2 (List.mem_cons_self ..)
    obtain ⟨k, hk, e⟩ := List.getElem_of_mem hm
    have hg : m.getD k 0 = n := by rw [List.getD_eq_getElem?_getD, List.getElem?_eq_getElem hk]; exact e
    have hsp := split_at hk
    rw [hg] at hsp
    have hp2 : (wo m k).Perm l := by
      have h1 : m.Perm (n :: wo m k) := by
        conv => lhs; rw [hsp]
        exact List.perm_middle
      exact (h1.symm.trans hp).cons_inv
    have hz : spE s t n = 0 := h 0 (by simp)
    obtain ⟨⟨e1, h1, h2, _⟩, h3, _⟩ := spS_ok hO hz
    have hstep : ∀ j, j < l.length → sfK s (nxS s t n) l j = 0 := fun j hj => by
      have h4 := h (j + 1) (by simp; omega)
      rw [sfK] at h4 ⊢
      have e2 : stK s t (n :: l) (j + 1) = stK s (nxS s t n) l j := by
        have := stK_drop (s := s) (t := t) (l := n :: l) 1 j
        rw [Nat.add_comm 1 j] at this
        rw [← this]
        show stK s (spS s t n) l j = stK s (nxS s t n) l j
        rw [e1]
      rw [e2] at h4
      exact h4
    have hlen : m.length = l.length + 1 := by simpa using hp.length_eq
    have hwl : (wo m k).length = l.length := hp2.length_eq
    have ih := togB_perm l (t := nxS s t n) (m := wo m k) h3 hstep hp2
    rw [hwl] at ih
    rw [hlen, togB, Bool.or_eq_true]
    refine .inr (anyN_t hk ?_)
    rw [hg, ih, Bool.and_true, nowB, hg, h1, decide_eq_true rfl, Bool.and_true, Bool.not_eq_true']
    refine List.any_eq_false.2 fun a ha => ?_
    rw [decide_eq_true_eq]
    intro hw
    rw [spF, fst2, unb_ok (by decide), unb_ok (by decide)] at h2
    have hned : nedB s t n = false := by simpa using h2.2
    have had : a ∈ t.d := by
      have := List.any_eq_false.1 hned a ha
      simpa using this
    have hal : a ∈ n :: l := List.mem_cons_of_mem _ (hp2.mem_iff.1 hw)
    obtain ⟨j, hj, ej⟩ := List.getElem_of_mem hal
    have := (acc_not hO h j hj).2
    rw [List.getD_eq_getElem?_getD, List.getElem?_eq_getElem hj] at this
    have this : (n :: l)[j] ∉ t.d := this
    rw [ej] at this
    exact this had
theorem goE_0 {s : Si} {t : St8} {l : List Int} (h0 : onE s t = 0) (h : nuE s l = 0) (h1 : dnB t l = false) : goE s t l = 0 := by
  rw [goE, if_pos h0, h, h1]; rfl
theorem perm_ok {s : Si} {t : St8} {l m : List Int} (hO : OnOk s t) (h : (prE s t l).2 = 0) (hp : m.Perm l) : nuE s m = 0 ∧ dnB t m = false := by
  have h1 := nuE_ok.1 (prE_nu hO h)
  refine ⟨nuE_ok.2 ⟨fun k hk => ?_, hp.nodup_iff.2 h1.2⟩, ?_⟩
  · have hm := hp.mem_iff.1 (getD_mem 0 hk)
    obtain ⟨j, hj, e⟩ := List.getElem_of_mem hm
    have := h1.1 j hj
    rw [List.getD_eq_getElem?_getD, List.getElem?_eq_getElem hj] at this
    have this : 0 ≤ l[j] ∧ l[j] < s.tk.length := this
    rw [e] at this; exact this
  · refine List.any_eq_false.2 fun x hx => ?_
    obtain ⟨j, hj, e⟩ := List.getElem_of_mem (hp.mem_iff.1 hx)
    have := (acc_not hO (eachN_ok.1 h) j hj).2
    rw [List.getD_eq_getElem?_getD, List.getElem?_eq_getElem hj] at this
    have this : l[j] ∉ t.d := this
    rw [e] at this
    simpa using this
end Go.Pw

set_option linter.unusedVariables false
set_option maxHeartbeats 2000000
set_option maxRecDepth 100000
namespace Go.Pw
open Go Go.Proofs
/-- moonpool/moonpoolbase.CopyInts -/
def lc29m : LCode :=
  (.seq (.region [⟨some 2, .mv (.const (.slice none 0 0)), none⟩]) (.seq (.region [⟨some 3, .lit false 3 1 [], none⟩, ⟨some 4, .mv (.tmp 0), none⟩, ⟨some 5, .append true 3 1 8 (.tmp
    3) (.tmp 4), none⟩, ⟨some 2, .mv (.tmp 5), none⟩]) .ret))
theorem low29m : lowF Try.prog [5] Try.f29 = some (6, lc29m.strip, [.tmp 2]) := by kernel_rfl
theorem fn29m : FnOk Try.prog 29 6 lc29m [.tmp 2] := ⟨Try.call29, [5], _, Try.func29, low29m⟩
end Go.Pw

set_option linter.unusedVariables false
set_option maxHeartbeats 2000000
set_option maxRecDepth 100000
namespace Go.Pw
open Go Go.Proofs
/-- moonpool/moonpoollaw08.DiveApart -/
def lc6n : LCode :=
  (.seq (.region [⟨some 3, .boxS (.tmp 0), none⟩, ⟨some 4, .boxS (.tmp 1), none⟩, ⟨some 6, .mv (.const (.bool false)), none⟩]) (.seq (.seq (.region [⟨some 24, .call (.func 9) [],
    none⟩, ⟨some 25, .un .not (.tmp 24), none⟩]) (.cond (.tmp 25) (.seq (.region [⟨some 6, .mv (.const (.bool false)), none⟩]) .ret) .skip)) (.seq (.seq (.region [⟨some 26, .load
    true 8 (.tmp 3), none⟩, ⟨some 27, .call (.func 10) [(.tmp 26)], none⟩, ⟨some 28, .un .not (.tmp 27), none⟩, ⟨some 29, .mv (.tmp 28), none⟩, ⟨some 30, .load true 5 (.tmp 4), some
    (29, false)⟩, ⟨some 31, .call (.func 11) [(.tmp 30)], some (29, false)⟩, ⟨some 32, .un .not (.tmp 31), some (29, false)⟩, ⟨some 33, .pick (.tmp 29) (.const (.bool true)) (.tmp
    32), none⟩, ⟨some 34, .mv (.tmp 33), none⟩, ⟨some 35, .mv (.tmp 2), some (34, false)⟩, ⟨some 36, .len (.tmp 35), some (34, false)⟩, ⟨some 37, .bin .gtr (.tmp 36) (.const (.int
    .i64 6)), some (34, false)⟩, ⟨some 38, .pick (.tmp 34) (.const (.bool true)) (.tmp 37), none⟩, ⟨some 39, .mv (.tmp 38), none⟩, ⟨some 40, .load true 8 (.tmp 3), some (39,
    false)⟩, ⟨some 41, .load true 5 (.tmp 4), some (39, false)⟩, ⟨some 42, .call (.func 18) [(.tmp 40), (.tmp 41)], some (39, false)⟩, ⟨some 43, .bin .neq (.tmp 42) (.const (.int
    .i64 0)), some (39, false)⟩, ⟨some 44, .pick (.tmp 39) (.const (.bool true)) (.tmp 43), none⟩]) (.cond (.tmp 44) (.seq (.region [⟨some 6, .mv (.const (.bool true)), none⟩])
    .ret) .skip)) (.seq (.regionD [⟨some 46, .load true 8 (.tmp 3), none⟩, ⟨some 47, .call (.func 13) [(.tmp 46)], none⟩, ⟨some 48, .load true 5 (.tmp 4), none⟩, ⟨some 49, .call
    (.func 15) [(.tmp 48)], none⟩, ⟨some 50, .call (.func 27) [(.tmp 47), (.tmp 49)], none⟩, ⟨some 45, .mv (.tmp 50), none⟩, ⟨some 51, .ext (.tmp 45) 0, none⟩, ⟨some 52, .ext (.tmp
    45) 1, none⟩, ⟨some 7, .mv (.tmp 51), none⟩, ⟨some 8, .mv (.tmp 52), none⟩] [0, 1, 0, 7, 15, 31, 63, 63, 127, 511] [0, 1, 2, 3, 4, 5, 6, 7, 8, 9]) (.seq (.seq (.region [⟨some
    53, .mv (.tmp 8), none⟩, ⟨some 54, .bin .eql (.tmp 53) (.const (.int .i64 0)), none⟩]) (.cond (.tmp 54) (.seq (.regionD [⟨some 56, .load true 8 (.tmp 3), none⟩, ⟨some 57, .call
    (.func 13) [(.tmp 56)], none⟩, ⟨some 58, .load true 5 (.tmp 4), none⟩, ⟨some 59, .call (.func 15) [(.tmp 58)], none⟩, ⟨some 60, .mv (.tmp 7), none⟩, ⟨some 61, .call (.func 29)
    [(.tmp 60)], none⟩, ⟨some 62, .call (.func 28) [(.tmp 57), (.tmp 59), (.tmp 61)], none⟩, ⟨some 55, .mv (.tmp 62), none⟩, ⟨some 63, .ext (.tmp 55) 0, none⟩, ⟨some 64, .ext (.tmp
    55) 1, none⟩, ⟨some 9, .mv (.tmp 63), none⟩, ⟨some 10, .mv (.tmp 64), none⟩] [0, 1, 0, 7, 0, 31, 63, 127, 255, 255, 511, 2047] [0, 1, 2, 3, 4, 5, 6, 7, 8, 9, 10, 11]) (.seq
    (.seq (.region [⟨some 65, .mv (.tmp 10), none⟩, ⟨some 66, .bin .neq (.tmp 65) (.const (.int .i64 0)), none⟩, ⟨some 67, .mv (.tmp 66), none⟩, ⟨some 68, .mv (.tmp 9), some (67,
    false)⟩, ⟨some 69, .pick (.tmp 67) (.const (.bool true)) (.tmp 68), none⟩, ⟨some 70, .mv (.tmp 69), none⟩, ⟨some 71, .mv (.tmp 7), some (70, false)⟩, ⟨some 72, .len (.tmp 71),
    some (70, false)⟩, ⟨some 73, .bin .eql (.tmp 72) (.const (.int .i64 0)), some (70, false)⟩, ⟨some 74, .pick (.tmp 70) (.const (.bool true)) (.tmp 73), none⟩, ⟨some 75, .mv (.tmp
    74), none⟩, ⟨some 76, .mv (.tmp 7), some (75, false)⟩, ⟨some 77, .len (.tmp 76), some (75, false)⟩, ⟨some 78, .fld 0 (.tmp 3), some (75, false)⟩, ⟨some 79, .load false 1 (.tmp
    78), some (75, false)⟩, ⟨some 80, .len (.tmp 79), some (75, false)⟩, ⟨some 81, .bin .gtr (.tmp 77) (.tmp 80), some (75, false)⟩, ⟨some 82, .pick (.tmp 75) (.const (.bool true))
    (.tmp 81), none⟩]) (.cond (.tmp 82) (.seq (.region [⟨some 6, .mv (.const (.bool false)), none⟩]) .ret) .skip)) (.seq (.region [⟨some 11, .mv (.const (.int .i64 0)), none⟩])
    (.block 0 (.loop (.seq (.seq (.region [⟨some 83, .mv (.tmp 11), none⟩, ⟨some 84, .mv (.tmp 7), none⟩, ⟨some 85, .len (.tmp 84), none⟩, ⟨some 86, .bin .lss (.tmp 83) (.tmp 85),
    none⟩]) (.cond (.tmp 86) .skip (.exit 0))) (.seq (.block 1 (.seq (.regionD [⟨some 90, .load true 8 (.tmp 3), none⟩, ⟨some 91, .call (.func 13) [(.tmp 90)], none⟩, ⟨some 92,
    .load true 5 (.tmp 4), none⟩, ⟨some 93, .call (.func 15) [(.tmp 92)], none⟩, ⟨some 94, .mv (.tmp 7), none⟩, ⟨some 95, .mv (.tmp 11), none⟩, ⟨some 96, .slc 1 (.tmp 94) none (some
    (.tmp 95)), none⟩, ⟨some 97, .call (.func 29) [(.tmp 96)], none⟩, ⟨some 98, .mv (.tmp 7), none⟩, ⟨some 99, .mv (.tmp 11), none⟩, ⟨some 100, .bin .add (.tmp 99) (.const (.int
    .i64 1)), none⟩, ⟨some 101, .slc 1 (.tmp 98) (some (.tmp 100)) none, none⟩, ⟨some 102, .append false 3 1 8 (.tmp 97) (.tmp 101), none⟩, ⟨some 103, .call (.func 28) [(.tmp 91),
    (.tmp 93), (.tmp 102)], none⟩, ⟨some 89, .mv (.tmp 103), none⟩, ⟨some 104, .ext (.tmp 89) 0, none⟩, ⟨some 105, .ext (.tmp 89) 1, none⟩, ⟨some 12, .mv (.tmp 104), none⟩, ⟨some
    13, .mv (.tmp 105), none⟩] [0, 1, 0, 7, 0, 0, 48, 127, 0, 0, 512, 1792, 4095, 8191, 16383, 32767, 32767, 65535, 262143] [0, 1, 2, 3, 4, 5, 6, 7, 8, 9, 10, 11, 12, 13, 14, 15,
    16, 17, 18]) (.seq (.region [⟨some 106, .mv (.tmp 13), none⟩, ⟨some 107, .bin .neq (.tmp 106) (.const (.int .i64 0)), none⟩, ⟨some 108, .mv (.tmp 107), none⟩, ⟨some 109, .mv
    (.tmp 12), some (108, false)⟩, ⟨some 110, .un .not (.tmp 109), some (108, false)⟩, ⟨some 111, .pick (.tmp 108) (.const (.bool true)) (.tmp 110), none⟩]) (.cond (.tmp 111) (.seq
    (.region [⟨some 6, .mv (.const (.bool false)), none⟩]) .ret) .skip)))) (.region [⟨some 87, .mv (.tmp 11), none⟩, ⟨some 88, .bin .add (.tmp 87) (.const (.int .i64 1)), none⟩,
    ⟨some 11, .mv (.tmp 88), none⟩])))))))) (.seq (.region [⟨some 14, .mv (.const (.slice none 0 0)), none⟩]) (.seq (.seq (.region [⟨some 15, .mv (.const (.int .i64 0)), none⟩])
    (.block 2 (.loop (.seq (.seq (.region [⟨some 112, .mv (.tmp 15), none⟩, ⟨some 113, .fld 0 (.tmp 3), none⟩, ⟨some 114, .load false 1 (.tmp 113), none⟩, ⟨some 115, .len (.tmp
    114), none⟩, ⟨some 116, .bin .lss (.tmp 112) (.tmp 115), none⟩]) (.cond (.tmp 116) .skip (.exit 2))) (.seq (.block 3 (.seq (.region [⟨some 119, .fld 4 (.tmp 4), none⟩, ⟨some
    120, .load false 1 (.tmp 119), none⟩, ⟨some 121, .mv (.tmp 15), none⟩, ⟨some 122, .call (.func 30) [(.tmp 120), (.tmp 121)], none⟩, ⟨some 123, .un .not (.tmp 122), none⟩])
    (.cond (.tmp 123) (.region [⟨some 124, .mv (.tmp 14), none⟩, ⟨some 125, .mv (.tmp 15), none⟩, ⟨some 126, .lit false 3 1 [(.tmp 125)], none⟩, ⟨some 127, .append true 3 1 8 (.tmp
    124) (.tmp 126), none⟩, ⟨some 14, .mv (.tmp 127), none⟩]) .skip))) (.region [⟨some 117, .mv (.tmp 15), none⟩, ⟨some 118, .bin .add (.tmp 117) (.const (.int .i64 1)), none⟩,
    ⟨some 15, .mv (.tmp 118), none⟩])))))) (.seq (.regionD [⟨some 129, .load true 8 (.tmp 3), none⟩, ⟨some 130, .call (.func 13) [(.tmp 129)], none⟩, ⟨some 131, .load true 5 (.tmp
    4), none⟩, ⟨some 132, .call (.func 15) [(.tmp 131)], none⟩, ⟨some 133, .mv (.tmp 14), none⟩, ⟨some 134, .call (.func 28) [(.tmp 130), (.tmp 132), (.tmp 133)], none⟩, ⟨some 128,
    .mv (.tmp 134), none⟩, ⟨some 135, .ext (.tmp 128) 0, none⟩, ⟨some 136, .ext (.tmp 128) 1, none⟩, ⟨some 16, .mv (.tmp 135), none⟩, ⟨some 17, .mv (.tmp 136), none⟩] [0, 1, 0, 7,
    0, 31, 63, 127, 127, 255, 1023] [0, 1, 2, 3, 4, 5, 6, 7, 8, 9, 10]) (.seq (.region [⟨some 137, .mv (.tmp 8), none⟩, ⟨some 138, .bin .neq (.tmp 137) (.const (.int .i64 12)),
    none⟩, ⟨some 139, .mv (.tmp 138), none⟩, ⟨some 140, .mv (.tmp 17), some (139, false)⟩, ⟨some 141, .bin .neq (.tmp 140) (.const (.int .i64 0)), some (139, false)⟩, ⟨some 142,
    .pick (.tmp 139) (.const (.bool true)) (.tmp 141), none⟩, ⟨some 143, .mv (.tmp 142), none⟩, ⟨some 144, .mv (.tmp 16), some (143, false)⟩, ⟨some 145, .un .not (.tmp 144), some
    (143, false)⟩, ⟨some 146, .pick (.tmp 143) (.const (.bool true)) (.tmp 145), none⟩]) (.cond (.tmp 146) (.seq (.region [⟨some 6, .mv (.const (.bool false)), none⟩]) .ret)
    .skip))))))) (.seq (.seq (.regionD [⟨some 148, .load true 8 (.tmp 3), none⟩, ⟨some 149, .call (.func 13) [(.tmp 148)], none⟩, ⟨some 150, .load true 5 (.tmp 4), none⟩, ⟨some 151,
    .call (.func 15) [(.tmp 150)], none⟩, ⟨some 152, .mv (.tmp 2), none⟩, ⟨some 153, .call (.func 29) [(.tmp 152)], none⟩, ⟨some 154, .call (.func 31) [(.tmp 149), (.tmp 151), (.tmp
    153)], none⟩, ⟨some 147, .mv (.tmp 154), none⟩, ⟨some 155, .ext (.tmp 147) 0, none⟩, ⟨some 156, .ext (.tmp 147) 1, none⟩, ⟨some 18, .mv (.tmp 155), none⟩, ⟨some 19, .mv (.tmp
    156), none⟩] [0, 1, 0, 7, 0, 31, 63, 127, 255, 255, 511, 2047] [0, 1, 2, 3, 4, 5, 6, 7, 8, 9, 10, 11]) (.seq (.region [⟨some 157, .mv (.tmp 19), none⟩, ⟨some 158, .bin .neq
    (.tmp 157) (.const (.int .i64 0)), none⟩]) (.cond (.tmp 158) (.seq (.region [⟨some 6, .mv (.const (.bool true)), none⟩]) .ret) .skip))) (.seq (.region [⟨some 20, .mv (.const
    (.slice none 0 0)), none⟩]) (.seq (.seq (.region [⟨some 159, .mv (.tmp 2), none⟩, ⟨some 160, .len (.tmp 159), none⟩, ⟨some 161, .bin .sub (.tmp 160) (.const (.int .i64 1)),
    none⟩, ⟨some 21, .mv (.tmp 161), none⟩]) (.block 4 (.loop (.seq (.seq (.region [⟨some 162, .mv (.tmp 21), none⟩, ⟨some 163, .bin .geq (.tmp 162) (.const (.int .i64 0)), none⟩])
    (.cond (.tmp 163) .skip (.exit 4))) (.seq (.block 5 (.region [⟨some 166, .mv (.tmp 20), none⟩, ⟨some 167, .mv (.tmp 2), none⟩, ⟨some 168, .mv (.tmp 21), none⟩, ⟨some 169, .idx 1
    (.tmp 167) (.tmp 168), none⟩, ⟨some 170, .load false 1 (.tmp 169), none⟩, ⟨some 171, .lit false 3 1 [(.tmp 170)], none⟩, ⟨some 172, .append true 3 1 8 (.tmp 166) (.tmp 171),
    none⟩, ⟨some 20, .mv (.tmp 172), none⟩])) (.region [⟨some 164, .mv (.tmp 21), none⟩, ⟨some 165, .bin .sub (.tmp 164) (.const (.int .i64 1)), none⟩, ⟨some 21, .mv (.tmp 165),
    none⟩])))))) (.seq (.regionD [⟨some 174, .load true 8 (.tmp 3), none⟩, ⟨some 175, .call (.func 13) [(.tmp 174)], none⟩, ⟨some 176, .load true 5 (.tmp 4), none⟩, ⟨some 177, .call
    (.func 15) [(.tmp 176)], none⟩, ⟨some 178, .mv (.tmp 20), none⟩, ⟨some 179, .call (.func 28) [(.tmp 175), (.tmp 177), (.tmp 178)], none⟩, ⟨some 173, .mv (.tmp 179), none⟩, ⟨some
    180, .ext (.tmp 173) 0, none⟩, ⟨some 181, .ext (.tmp 173) 1, none⟩, ⟨some 22, .mv (.tmp 180), none⟩, ⟨some 23, .mv (.tmp 181), none⟩] [0, 1, 0, 7, 0, 31, 63, 127, 127, 255,
    1023] [0, 1, 2, 3, 4, 5, 6, 7, 8, 9, 10]) (.seq (.region [⟨some 182, .mv (.tmp 23), none⟩, ⟨some 183, .bin .eql (.tmp 182) (.const (.int .i64 0)), none⟩, ⟨some 184, .mv (.tmp
    183), none⟩, ⟨some 185, .mv (.tmp 22), some (184, true)⟩, ⟨some 186, .pick (.tmp 184) (.tmp 185) (.const (.bool false)), none⟩, ⟨some 6, .mv (.tmp 186), none⟩]) .ret))))))))))
theorem low6n : lowF Try.prog [3, 4, 127, 172] Try.f6 = some (187, lc6n.strip, [.tmp 6]) := by kernel_rfl
theorem fn6n : FnOk Try.prog 6 187 lc6n [.tmp 6] := ⟨Try.call6, [3, 4, 127, 172], _, Try.func6, low6n⟩
end Go.Pw

set_option linter.unusedSimpArgs false
set_option linter.unusedVariables false
set_option maxHeartbeats 4000000
namespace Go.Pw
set_option maxRecDepth 2000
open Go Go.Proofs A1 A2 A3 A4
/-- A function of data takes a row of one's own, which is closed by that. -/
theorem CallD.frz {P : Program} {f : FuncId} {args args' : List V} {v : V} {id nx : Nat} {e : TypeId} {s m n : Nat} {g : Nat → List D} (h : PFD P f args' v) (hn : n ≤ m) (hlen : args.length = args'.length)
    (ha : ∀ (i : Nat) a a', args[i]? = some a → args'[i]? = some a' → (a = .c (.ms id n) ∧ a' = .c (.d (.sl s n g))) ∨ RI a a') : CallD P f args [(id, .row e s m g false)] nx v [] nx := by
  refine ⟨h.h.1, Nat.le_refl _, fun Γ w us hst _ hr => ?_⟩
  have hg : get [(id, Ent.row e s m g false)] id = some (.row e s m g false) := get_cons_same
  obtain ⟨b, hb, hok⟩ := hst.ok id _ hg
  have h1 := hst.freeze hg hb
  have hle : CxLe Γ (Γ.also fun k => k = b ∧ ∃ c, Γ.κ id = some c) := CxLe.also _ _
  have h2 : StoreOk (Γ.also fun k => k = b ∧ ∃ c, Γ.κ id = some c) w [] := storeOk_nil h1.im
  have hr' : RepL (Γ.also fun k => k = b ∧ ∃ c, Γ.κ id = some c) w args' us := by
    refine ⟨by rw [hr.1, hlen], fun i a' u ha' hu => ?_⟩
    have hi : i < args.length := by rw [hlen]; exact (List.getElem?_eq_some_iff.1 ha').1
    have hx := hr.2 i args[i] u (List.getElem?_eq_getElem hi) hu
    rcases ha i _ a' (List.getElem?_eq_getElem hi) ha' with ⟨e1, e2⟩ | hri
    · rw [e1] at hx
      subst e2
      cases hx with
      | c _ _ hx =>
        obtain ⟨b', hb', hd⟩ := ms_data hst hg hn hx
        rw [hb] at hb'; cases hb'
        exact .c _ _ (hd _ (fun k hk => .inl hk) (fun hc => .inr ⟨rfl, hc⟩))
    · exact hri _ _ _ (hx.mono hle (fun _ _ => rfl))
  refine (h.h.2.2 _ w us h2 (fun id _ h => absurd h (Nat.not_lt_zero _)) hr').mono fun e' w' ⟨u, Γ', q1, q2, q3, q4, q5, q6⟩ => ⟨u, Γ', q1, q2, q3, hle.trans q4, fun j _ => q5 j (by omega), ?_⟩
  refine Ext.trans (Γ' := Γ.also fun k => k = b ∧ ∃ c, Γ.κ id = some c) (w' := w) (σ' := []) ⟨rfl, rfl, rfl, Nat.le_refl _, fun k hk => .inl hk, fun k hk => ?_, fun _ _ => rfl, fun _ _ => rfl, fun _ _ _ => rfl, fun k hk => absurd hk not_live_nil⟩ q6
  rcases hk with hk | ⟨rfl, hcc⟩
  · exact .inl hk
  · rcases hst.or_live hg hb hcc with h3 | h3
    · exact .inl h3
    · exact .inr (.inr ⟨id, h3, hb⟩)
/-- A copy of some numbers is a row of one's own. -/
theorem C29o {m : Nat} {g : Nat → List D} (h : 0 < m ∧ m ≤ 1000000) : CallD Try.prog 29 [.c (.d (.sl 1 m g))] [] 5 (.c (.ms 5 m)) [(5, .row 3 1 m g false)] 6 := by
  refine CallD.of (vs := [.c (.ms 5 m)]) fn29m rfl rfl (by (refine qis ?_ ?_ <;> (repeat' first | exact rfl | (refine qS ?_; constructor)))) ?_
  (repeat' first | (refine Owe.same ?_; first | refine Owe.o ?_ | refine Owe.mk ?_ ?_) | (refine Fork.same ?_; (first | refine fkD ?_ ?_ | refine fkN ?_ ?_ | refine fkM ?_ ?_) <;> intro h) | refine MvQ.stay ?_)
  exact RetQ.is rfl
theorem C29z : PFD Try.prog 29 [.c (.d (.sl 0 0 fun _ => []))] (.c .z) := by
  refine pi1 fn29m ?_
  (repeat' first | (refine Owe.same ?_; first | refine Owe.o ?_ | refine Owe.mk ?_ ?_) | (refine Fork.same ?_; (first | refine fkD ?_ ?_ | refine fkN ?_ ?_ | refine fkM ?_ ?_) <;> intro h) | refine MvQ.stay ?_)
  (refine rqK rfl ?_; (repeat' first | exact rfl | (refine qS ?_; constructor)))
theorem DI.e {s s' : Nat} {f g : Nat → List D} : DI (.sl s 0 f) (.sl s' 0 g) := fun I w u h => by
  cases h with
  | slE => exact .slE _ _ _ _
  | sl _ _ _ ad c U hn hI hs hc hr => exact .slE _ _ _ _
theorem C29e {f : Nat → List D} : PFD Try.prog 29 [.c (.d (.sl 1 0 f))] (.c .z) := PFD.ri C29z (.cons (RI.cI DI.e) .nil)
/-- What goes together, of a row. -/
theorem C28r {s : Si} {t : St8} {l : List Int} {id nx n m : Nat} {e : TypeId} {g : Nat → List D} (hn : n = l.length) (hm : n ≤ m) (hg : ∀ i, i < n → g i = r1 (l.getD i 0)) (h : SiSm s ∧ t.d.length ≤ 1000000 ∧ l.length ≤ 1000000) :
    CallD Try.prog 28 [siv s, stv t, .c (.ms id n)] [(id, .row e 1 m g false)] nx (.tup [vbl (decide (goE s t l = 0) && tgB s t l), vi .i64 (goE s t l)]) [] nx := by
  have c := C28 h
  have c : PFD Try.prog 28 [siv s, stv t, .c (.d (.sl 1 n g))] (.tup [vbl (decide (goE s t l = 0) && tgB s t l), vi .i64 (goE s t l)]) := by
    refine PFD.ri c (.cons (RI.refl _) (.cons (RI.refl _) (.cons (RI.cI ?_) .nil)))
    subst hn
    exact DI.sl fun i hi => by rw [hg i hi]; exact DIs.refl _
  refine CallD.frz c hm rfl fun i a a' ha ha' => ?_
  match i with
  | 0 => simp at ha ha'; subst ha; subst ha'; exact .inr (RI.refl _)
  | 1 => simp at ha ha'; subst ha; subst ha'; exact .inr (RI.refl _)
  | 2 => simp at ha ha'; subst ha; subst ha'; exact .inl ⟨rfl, rfl⟩
  | i + 3 => simp at ha
end Go.Pw

set_option linter.unusedSimpArgs false
set_option linter.unusedVariables false
set_option maxHeartbeats 8000000
namespace Go.Pw
set_option maxRecDepth 2000
open Go Go.Proofs A1 A2 A3 A4
theorem wo_dn {t : St8} {l : List Int} {k : Nat} (h : dnB t l = false) : dnB t (wo l k) = false :=
  List.any_eq_false.2 fun x hx => List.any_eq_false.1 h x (wo_mem hx)
theorem C6 {s : Si} {t : St8} {l : List Int} : PFD Try.prog 6 [siv s, stv t, .c (ints l)] (vbl true) := by
  have f1 := C10 (s := s)
  have f2 := C11 (t := t)
  by_cases hf : fewP s
  rotate_left
  · rw [fewB, decide_eq_false hf] at f1
    refine pi1 fn6 ?_
    (repeat' first | (refine Owe.same ?_; first | refine Owe.o ?_ | refine Owe.mk ?_ ?_) | (refine Fork.same ?_; (first | refine fkY ?_ | refine fkF ?_ | ((first | refine fkD ?_ ?_ | refine fkN ?_ ?_ | refine fkM ?_ ?_) <;> intro h))) | ((first | refine OpsL.same ?_ | refine OpsDL.same ?_); first | refine oK C9 rfl rfl rfl ?_ | refine oK f1 rfl rfl rfl ?_) | refine MvQ.stay ?_)
    (refine rqK rfl ?_; (repeat' first | exact rfl | (refine qS ?_; constructor)))
  rw [fewB, decide_eq_true hf] at f1
  have hs := (Few.of hf).sm
  by_cases hd : (t.d.length : Int) ≤ 8
  rotate_left
  · rw [decide_eq_false hd] at f2
    refine pi1 fn6 ?_
    (repeat' first | (refine Owe.same ?_; first | refine Owe.o ?_ | refine Owe.mk ?_ ?_) | (refine Fork.same ?_; (first | refine fkY ?_ | refine fkF ?_ | ((first | refine fkD ?_ ?_ | refine fkN ?_ ?_ | refine fkM ?_ ?_) <;> intro h))) | ((first | refine OpsL.same ?_ | refine OpsDL.same ?_); first | refine oK C9 rfl rfl rfl ?_ | refine oK f1 rfl rfl rfl ?_ | refine oK f2 rfl rfl rfl ?_) | refine MvQ.stay ?_)
    (refine rqK rfl ?_; (repeat' first | exact rfl | (refine qS ?_; constructor)))
  rw [decide_eq_true hd] at f2
  by_cases hl : (l.length : Int) ≤ 6
  rotate_left
  · refine pi1 fn6 ?_
    (repeat' first | (refine Owe.same ?_; first | refine Owe.o ?_ | refine Owe.mk ?_ ?_) | (refine Fork.same ?_; (first | refine fkY ?_ | refine fkF ?_ | ((first | refine fkD ?_ ?_ | refine fkN ?_ ?_ | refine fkM ?_ ?_) <;> intro h))) | ((first | refine OpsL.same ?_ | refine OpsDL.same ?_); first | refine oK C9 rfl rfl rfl ?_ | refine oK f1 rfl rfl rfl ?_ | refine oK f2 rfl rfl rfl ?_) | refine MvQ.stay ?_)
    (refine rqK rfl ?_; (repeat' first | exact rfl | (refine qS ?_; constructor)))
  have f3 := C18 (s := s) (t := t) ⟨hs, by omega⟩
  by_cases h0 : onE s t = 0
  rotate_left
  · generalize onE s t = e at *
    refine pi1 fn6 ?_
    (repeat' first | (refine Owe.same ?_; first | refine Owe.o ?_ | refine Owe.mk ?_ ?_) | (refine Fork.same ?_; (first | refine fkY ?_ | refine fkF ?_ | ((first | refine fkD ?_ ?_ | refine fkN ?_ ?_ | refine fkM ?_ ?_) <;> intro h))) | ((first | refine OpsL.same ?_ | refine OpsDL.same ?_); first | refine oK C9 rfl rfl rfl ?_ | refine oK f1 rfl rfl rfl ?_ | refine oK f2 rfl rfl rfl ?_ | refine oK f3 rfl rfl rfl ?_) | refine MvQ.stay ?_)
    (refine rqK rfl ?_; (repeat' first | exact rfl | (refine qS ?_; constructor)))
  have hs0 : (siE s).2 = 0 := by
    rw [onE, fst2] at h0
    exact h0.1
  have hO := OnOk.of h0
  have hn6 := hO.ok.n
  rw [h0] at f3
  have c1 := C13 hs
  have c2 := C15 (t := t) (by omega)
  have c3 := C29 (l := l) (by omega)
  have c27 := C27 (s := s) (t := t) ⟨hs, by omega⟩
  have cp := C31 (s := s) (t := t) (l := l) ⟨hs, by omega, by omega⟩
  rw [clE, if_pos h0] at c27
  rcases hc : clO s t with _ | m
  · rw [hc] at c27
    have c27 : PFD Try.prog 27 [siv s, stv t] (.tup [.c (ints []), vi .i64 12]) := c27
    have hall : ∀ b, b < 2 ^ s.tk.length → clB s t (subL s.tk.length b) = false := fun b hb => clK_none hc hb
    obtain ⟨b, b1, b2⟩ := subL_of (fun j => !decide ((j : Int) ∈ t.d)) s.tk.length
    have hcb := hall b b1
    rw [b2] at hcb
    have hdn : dnB t (fltL (fun j => !decide ((j : Int) ∈ t.d)) s.tk.length) = false := List.any_eq_false.2 fun x hx => by
      obtain ⟨j, hj, rfl⟩ := List.mem_map.1 hx
      have := (List.mem_filter.1 hj).2
      simpa using this
    have htg : tgB s t (fltL (fun j => !decide ((j : Int) ∈ t.d)) s.tk.length) = true := by
      rw [clB, hdn] at hcb
      simpa using hcb
    have hso : SetOk s t (fltL (fun j => !decide ((j : Int) ∈ t.d)) s.tk.length) := by
      rw [← b2] at hdn ⊢
      exact SetOk.sub hdn
    have hgo := goE_0 h0 (nuE_ok.2 ⟨hso.n, hso.u⟩) hdn
    have hal := fltL_len (fun j => !decide ((j : Int) ∈ t.d)) s.tk.length
    clear hcb hall b2
    refine pi1 fn6 ?_
    (repeat' first | (refine Owe.same ?_; first | refine Owe.o ?_ | refine Owe.mk ?_ ?_) | (refine Fork.same ?_; (first | refine fkY ?_ | refine fkF ?_ | ((first | refine fkD ?_ ?_ | refine fkN ?_ ?_ | refine fkM ?_ ?_) <;> intro h))) | ((first | refine OpsL.same ?_ | refine OpsDL.same ?_); first | refine oK C9 rfl rfl rfl ?_ | refine oK f1 rfl rfl rfl ?_ | refine oK f2 rfl rfl rfl ?_ | refine oK f3 rfl rfl rfl ?_ | refine oK c1 rfl rfl rfl ?_ | refine oK c2 rfl rfl rfl ?_ | refine oK c3 rfl rfl rfl ?_ | refine oK c27 rfl rfl rfl ?_) | refine MvQ.stay ?_)
    (repeat' first | (refine Owe.same ?_; first | refine Owe.o ?_ | refine Owe.mk ?_ ?_) | (refine Fork.same ?_; (first | refine fkD ?_ ?_ | refine fkN ?_ ?_ | refine fkM ?_ ?_) <;> intro h) | refine MvQ.stay ?_)
    refine Sat.nilS 14 3 1 (fun i => r1 (([] : List Int).getD i 0)) rfl ?_
    refine Sat.lp (fun k : Nat => ⟨[(15, vi .i64 k), (14, .c (.ms 0 (fltL (fun j => !decide ((j : Int) ∈ t.d)) k).length)), (8, vi .i64 12), (2, .c (ints l)), (3, .c (.rp (siD s))), (4, .c (.rp (stD t)))], [(0, rowv 3 1 r1 0 (fltL (fun j => !decide ((j : Int) ∈ t.d)) k))], 1⟩) (fun k => k ≤ s.tk.length) (fun k => s.tk.length - k) 0 [7] (Nat.zero_le _) ?_ ?_
    · (refine qis ?_ ?_ <;> (repeat' first | exact rfl | (refine qS ?_; constructor)))
    · intro k hk
      have hfl := fltL_len (fun j => !decide ((j : Int) ∈ t.d)) k
      have hfs := fltL_succ (fun j => !decide ((j : Int) ∈ t.d)) k
      refine Fork.dec (fun hlt => ?_) (fun hlt => ?_)
      · have hlt : k < s.tk.length := by omega
        have c30 := C30 (l := t.d) (n := (k : Int)) (by omega)
        rcases hm : decide ((k : Int) ∈ t.d) with _ | _
        · rw [hm] at c30 hfs
          rw [if_pos (by rfl)] at hfs
          (repeat' first | (refine Owe.same ?_; first | refine Owe.o ?_ | refine Owe.mk ?_ ?_) | (refine Fork.same ?_; (first | refine fkY ?_ | refine fkF ?_ | ((first | refine fkD ?_ ?_ | refine fkN ?_ ?_ | refine fkM ?_ ?_) <;> intro h))) | ((first | refine OpsL.same ?_ | refine OpsDL.same ?_); first | refine oK c30 rfl rfl rfl ?_) | refine MvQ.stay ?_)
          (repeat' first | (refine Owe.same ?_; first | refine Owe.o ?_ | refine Owe.mk ?_ ?_) | (refine Fork.same ?_; (first | refine fkD ?_ ?_ | refine fkN ?_ ?_ | refine fkM ?_ ?_) <;> intro h) | refine MvQ.stay ?_)
          refine again (k + 1) [1] hlt (by omega) ?_
          rw [hfs]
          (refine qis ?_ ?_ <;> (repeat' first | exact rfl | (refine qS ?_; constructor)))
          simp
        · rw [hm] at c30 hfs
          rw [if_neg (by decide)] at hfs
          (repeat' first | (refine Owe.same ?_; first | refine Owe.o ?_ | refine Owe.mk ?_ ?_) | (refine Fork.same ?_; (first | refine fkY ?_ | refine fkF ?_ | ((first | refine fkD ?_ ?_ | refine fkN ?_ ?_ | refine fkM ?_ ?_) <;> intro h))) | ((first | refine OpsL.same ?_ | refine OpsDL.same ?_); first | refine oK c30 rfl rfl rfl ?_) | refine MvQ.stay ?_)
          (repeat' first | (refine Owe.same ?_; first | refine Owe.o ?_ | refine Owe.mk ?_ ?_) | (refine Fork.same ?_; (first | refine fkD ?_ ?_ | refine fkN ?_ ?_ | refine fkM ?_ ?_) <;> intro h) | refine MvQ.stay ?_)
          refine again (k + 1) [0] hlt (by omega) ?_
          rw [hfs]
          (refine qis ?_ ?_ <;> (repeat' first | exact rfl | (refine qS ?_; constructor)))
      · have : k = s.tk.length := by omega
        subst this
        have c28 := fun {id nx} => C28r (s := s) (t := t) (l := fltL (fun j => !decide ((j : Int) ∈ t.d)) s.tk.length) (id := id) (nx := nx) (n := (fltL (fun j => !decide ((j : Int) ∈ t.d)) s.tk.length).length) (m := (fltL (fun j => !decide ((j : Int) ∈ t.d)) s.tk.length).length) (e := 3) (g := fun i => r1 ((fltL (fun j => !decide ((j : Int) ∈ t.d)) s.tk.length).getD i 0)) rfl (Nat.le_refl _) (fun _ _ => rfl) ⟨hs, by omega, by omega⟩
        rw [hgo, htg, decide_eq_true rfl, Bool.and_self] at c28
        clear hgo htg hdn hso hfs hfl
        generalize fltL (fun j => !decide ((j : Int) ∈ t.d)) s.tk.length = A at *
        (repeat' first | (refine Owe.same ?_; first | refine Owe.o ?_ | refine Owe.mk ?_ ?_) | (refine Fork.same ?_; (first | refine fkY ?_ | refine fkF ?_ | ((first | refine fkD ?_ ?_ | refine fkN ?_ ?_ | refine fkM ?_ ?_) <;> intro h))) | ((first | refine OpsL.same ?_ | refine OpsDL.same ?_); first | refine oK c1 rfl rfl rfl ?_ | refine oK c2 rfl rfl rfl ?_) | refine MvQ.stay ?_)
        refine OpsDL.cm [(0, .row 3 1 A.length (fun i => r1 (A.getD i 0)) false)] [] c28 (sub_cons rfl sub_nil) rfl rfl (RIs.rfl' _) ?_
        by_cases hp : (prE s t l).2 = 0
        rotate_left
        · have cp := cp
          have e1 : (cpE s t l).2 = (prE s t l).2 := by rw [cpE, if_pos h0, if_neg hp]
          rw [e1] at cp
          generalize (cpE s t l).1 = v at *
          generalize (prE s t l).2 = e at *
          (repeat' first | (refine Owe.same ?_; first | refine Owe.o ?_ | refine Owe.mk ?_ ?_) | (refine Fork.same ?_; (first | refine fkY ?_ | refine fkF ?_ | ((first | refine fkD ?_ ?_ | refine fkN ?_ ?_ | refine fkM ?_ ?_) <;> intro h))) | ((first | refine OpsL.same ?_ | refine OpsDL.same ?_); first | refine oK c1 rfl rfl rfl ?_ | refine oK c2 rfl rfl rfl ?_ | refine oK c3 rfl rfl rfl ?_ | refine oK cp rfl rfl rfl ?_) | refine MvQ.stay ?_)
          (refine rqK rfl ?_; (repeat' first | exact rfl | (refine qS ?_; constructor)))
        have e1 : (cpE s t l).2 = 0 := cpE_0 h0 hp
        rw [e1] at cp
        generalize (cpE s t l).1 = v at *
        (repeat' first | (refine Owe.same ?_; first | refine Owe.o ?_ | refine Owe.mk ?_ ?_) | (refine Fork.same ?_; (first | refine fkY ?_ | refine fkF ?_ | ((first | refine fkD ?_ ?_ | refine fkN ?_ ?_ | refine fkM ?_ ?_) <;> intro h))) | ((first | refine OpsL.same ?_ | refine OpsDL.same ?_); first | refine oK c1 rfl rfl rfl ?_ | refine oK c2 rfl rfl rfl ?_ | refine oK c3 rfl rfl rfl ?_ | refine oK cp rfl rfl rfl ?_) | refine MvQ.stay ?_)
        (repeat' first | (refine Owe.same ?_; first | refine Owe.o ?_ | refine Owe.mk ?_ ?_) | (refine Fork.same ?_; (first | refine fkD ?_ ?_ | refine fkN ?_ ?_ | refine fkM ?_ ?_) <;> intro h) | refine MvQ.stay ?_)
        refine Sat.nilS 20 3 1 (fun i => r1 (([] : List Int).getD i 0)) rfl ?_
        refine Sat.lp (fun n : Nat => ⟨[(21, vi .i64 ((n : Int) - 1)), (20, .c (.ms 0 ((l.drop n).reverse).length)), (2, .c (ints l)), (3, .c (.rp (siD s))), (4, .c (.rp (stD t)))], [(0, rowv 3 1 r1 0 ((l.drop n).reverse))], 1⟩) (fun n => n ≤ l.length) (fun n => n) l.length [17] (Nat.le_refl _) ?_ ?_
        · simp only [List.drop_length, List.reverse_nil]
          (refine qis ?_ ?_ <;> (repeat' first | exact rfl | (refine qS ?_; constructor)))
        · intro n hn
          match n, hn with
          | 0, _ =>
            have hperm : l.reverse.Perm l := List.reverse_perm l
            obtain ⟨z1, z2⟩ := perm_ok hO hp hperm
            have hgo := goE_0 h0 z1 z2
            have htg : tgB s t l.reverse = true := togB_perm l hO (eachN_ok.1 hp) hperm
            have c28 := fun {id nx} => C28r (s := s) (t := t) (l := l.reverse) (id := id) (nx := nx) (n := l.reverse.length) (m := l.reverse.length) (e := 3) (g := fun i => r1 (l.reverse.getD i 0)) rfl (Nat.le_refl _) (fun _ _ => rfl) ⟨hs, by omega, by simp; omega⟩
            rw [hgo, htg, decide_eq_true rfl, Bool.and_self] at c28
            rw [List.drop_zero]
            (repeat' first | (refine Owe.same ?_; first | refine Owe.o ?_ | refine Owe.mk ?_ ?_) | (refine Fork.same ?_; (first | refine fkY ?_ | refine fkF ?_ | ((first | refine fkD ?_ ?_ | refine fkN ?_ ?_ | refine fkM ?_ ?_) <;> intro h))) | ((first | refine OpsL.same ?_ | refine OpsDL.same ?_); first | refine oK c1 rfl rfl rfl ?_ | refine oK c2 rfl rfl rfl ?_) | refine MvQ.stay ?_)
            refine OpsDL.cm [(0, .row 3 1 l.reverse.length (fun i => r1 (l.reverse.getD i 0)) false)] [] c28 (sub_cons rfl sub_nil) rfl rfl (RIs.rfl' _) ?_
            (repeat' first | (refine Owe.same ?_; first | refine Owe.o ?_ | refine Owe.mk ?_ ?_) | (refine Fork.same ?_; (first | refine fkY ?_ | refine fkF ?_ | ((first | refine fkD ?_ ?_ | refine fkN ?_ ?_ | refine fkM ?_ ?_) <;> intro h))) | ((first | refine OpsL.same ?_ | refine OpsDL.same ?_); first | refine oK c1 rfl rfl rfl ?_) | refine MvQ.stay ?_)
            (refine rqK rfl ?_; (repeat' first | exact rfl | (refine qS ?_; constructor)))
          | m + 1, hn =>
            have em : (((m + 1 : Nat) : Int) - 1).toNat = m := by omega
            have hdr : (l.drop m).reverse = (l.drop (m + 1)).reverse ++ [l.getD m 0] := by
              rw [List.drop_eq_getElem_cons (show m < l.length by omega), List.reverse_cons, List.getD_eq_getElem?_getD, List.getElem?_eq_getElem (show m < l.length by omega)]; rfl
            have hlr : ((l.drop (m + 1)).reverse).length ≤ 1000000 := by simp; omega
            (repeat' first | (refine Owe.same ?_; first | refine Owe.o ?_ | refine Owe.mk ?_ ?_) | (refine Fork.same ?_; (first | refine fkY ?_ | refine fkF ?_ | ((first | refine fkD ?_ ?_ | refine fkN ?_ ?_ | refine fkM ?_ ?_) <;> intro h))) | ((first | refine OpsL.same ?_ | refine OpsDL.same ?_); first | refine oK c1 rfl rfl rfl ?_) | refine MvQ.stay ?_)
            (repeat' first | (refine Owe.same ?_; first | refine Owe.o ?_ | refine Owe.mk ?_ ?_) | (refine Fork.same ?_; (first | refine fkD ?_ ?_ | refine fkN ?_ ?_ | refine fkM ?_ ?_) <;> intro h) | refine MvQ.stay ?_)
            refine again m [1] (by omega) (by show m < m + 1; omega) ?_
            rw [hdr]
            (refine qis ?_ ?_ <;> (repeat' first | exact rfl | (refine qS ?_; constructor)))
            · omega
            · simp
            · rw [em]
  · rw [hc] at c27
    have c27 : PFD Try.prog 27 [siv s, stv t] (.tup [.c (ints m), vi .i64 0]) := c27
    obtain ⟨⟨b, b1, b2⟩, b3, b4⟩ := clK_some hc
    obtain ⟨b5, b6⟩ := clK_len hc
    have b3' := b3
    rw [clB, Bool.and_eq_true, Bool.not_eq_true', Bool.not_eq_true'] at b3'
    obtain ⟨hdn, htg⟩ := b3'
    have hso : SetOk s t m := by
      rw [b2] at hdn ⊢
      exact SetOk.sub hdn
    have hgo := goE_0 h0 (nuE_ok.2 ⟨hso.n, hso.u⟩) hdn
    have c28a := C28 (s := s) (t := t) (l := m) ⟨hs, by omega, by omega⟩
    rw [hgo, htg, decide_eq_true rfl, Bool.true_and] at c28a
    have c3m := C29 (l := m) (by omega)
    have hwo : ∀ k, k < m.length → goE s t (wo m k) = 0 ∧ tgB s t (wo m k) = true := fun k hk => by
      have hdk := wo_dn (k := k) hdn
      have hsk : SetOk s t (wo m k) := ⟨fun i hi => by
        have hm := wo_mem (getD_mem 0 hi)
        obtain ⟨j, hj, e⟩ := List.getElem_of_mem hm
        have := hso.n j hj
        rw [List.getD_eq_getElem?_getD, List.getElem?_eq_getElem hj] at this
        rw [← e]; exact this, wo_nd hso.u, fun x hx => hso.d x (wo_mem hx)⟩
      refine ⟨goE_0 h0 (nuE_ok.2 ⟨hsk.n, hsk.u⟩) hdk, ?_⟩
      rcases hgb : tgB s t (wo m k) with _ | _
      · exfalso
        have hcw : clB s t (wo m k) = true := by rw [clB, hdk, hgb]; rfl
        rw [b2] at hk hcw
        obtain ⟨b', q1, q2⟩ := wo_sub hk
        rw [← q2] at hcw
        have q3 := b4 b' q1 hcw
        rw [q2] at q3
        have q4 := wo_len hk
        rw [← b2] at q3 q4
        omega
      · rfl
    clear b1 b2 b3 b4 hc
    by_cases hm1 : m.length = 1
    · refine pi1 fn6n ?_
      (repeat' first | (refine Owe.same ?_; first | refine Owe.o ?_ | refine Owe.mk ?_ ?_) | (refine Fork.same ?_; (first | refine fkY ?_ | refine fkF ?_ | ((first | refine fkD ?_ ?_ | refine fkN ?_ ?_ | refine fkM ?_ ?_) <;> intro h))) | ((first | refine OpsL.same ?_ | refine OpsDL.same ?_); first | refine oK C9 rfl rfl rfl ?_ | refine oK f1 rfl rfl rfl ?_ | refine oK f2 rfl rfl rfl ?_ | refine oK f3 rfl rfl rfl ?_ | refine oK c1 rfl rfl rfl ?_ | refine oK c2 rfl rfl rfl ?_ | refine oK c3 rfl rfl rfl ?_ | refine oK c27 rfl rfl rfl ?_ | refine oK c28a rfl rfl rfl ?_ | refine oK c3m rfl rfl rfl ?_) | refine MvQ.stay ?_)
      (repeat' first | (refine Owe.same ?_; first | refine Owe.o ?_ | refine Owe.mk ?_ ?_) | (refine Fork.same ?_; (first | refine fkD ?_ ?_ | refine fkN ?_ ?_ | refine fkM ?_ ?_) <;> intro h) | refine MvQ.stay ?_)
      refine Sat.lp0 (fun k : Nat => [(11, vi .i64 k), (7, .c (ints m)), (2, .c (ints l)), (3, .c (.rp (siD s))), (4, .c (.rp (stD t)))]) (fun k => k ≤ m.length) (fun k => m.length - k) 0 (Nat.zero_le _) (by ((first | refine qen ?_ | refine qvs ?_ | refine qeq ?_ | refine qst ?_ | refine qv ?_ | refine qc ?_ | refine qe ?_ | refine qcs ?_ | skip); (repeat' first | exact rfl | (refine qS ?_; constructor)))) ?_
      intro k hk
      refine Fork.dec (fun hlt => ?_) (fun hlt => ?_)
      · have hlt : k < m.length := by omega
        obtain ⟨w1, w2⟩ := hwo k hlt
        have hwl := wo_len hlt
        obtain rfl : k = 0 := by omega
        have hw0 : wo m 0 = [] := List.eq_nil_of_length_eq_zero (by omega)
        rw [hw0] at w1 w2
        have c28 := C28 (s := s) (t := t) (l := []) ⟨hs, by omega, by decide⟩
        rw [w1, w2, decide_eq_true rfl, Bool.and_self] at c28
        have c28 : PFD Try.prog 28 [siv s, stv t, .c (.d (.sl 1 (m.length - 1) fun j => r1 (m.getD (1 + j) 0)))] (.tup [vbl true, vi .i64 0]) := by
          refine PFD.ri c28 (.cons (RI.refl _) (.cons (RI.refl _) (.cons (RI.cI ?_) .nil)))
          rw [hm1]
          exact DI.e
        (repeat' first | (refine Owe.same ?_; first | refine Owe.o ?_ | refine Owe.mk ?_ ?_) | (refine Fork.same ?_; (first | refine fkY ?_ | refine fkF ?_ | ((first | refine fkD ?_ ?_ | refine fkN ?_ ?_ | refine fkM ?_ ?_) <;> intro h))) | ((first | refine OpsL.same ?_ | refine OpsDL.same ?_); first | refine oK c1 rfl rfl rfl ?_ | refine oK c2 rfl rfl rfl ?_ | refine oK C29e rfl rfl rfl ?_ | refine oK c28 rfl rfl rfl ?_) | refine MvQ.stay ?_)
        exact again0 1 hlt (by omega) (by ((first | refine qen ?_ | refine qvs ?_ | refine qeq ?_ | refine qst ?_ | refine qv ?_ | refine qc ?_ | refine qe ?_ | refine qcs ?_ | skip); (repeat' first | exact rfl | (refine qS ?_; constructor))))
      · have : k = m.length := by omega
        subst this
        clear hwo hlt hk
        by_cases hp : (prE s t l).2 = 0
        rotate_left
        · have cp := cp
          have e1 : (cpE s t l).2 = (prE s t l).2 := by rw [cpE, if_pos h0, if_neg hp]
          rw [e1] at cp
          generalize (cpE s t l).1 = v at *
          generalize (prE s t l).2 = e at *
          (repeat' first | (refine Owe.same ?_; first | refine Owe.o ?_ | refine Owe.mk ?_ ?_) | (refine Fork.same ?_; (first | refine fkY ?_ | refine fkF ?_ | ((first | refine fkD ?_ ?_ | refine fkN ?_ ?_ | refine fkM ?_ ?_) <;> intro h))) | ((first | refine OpsL.same ?_ | refine OpsDL.same ?_); first | refine oK c1 rfl rfl rfl ?_ | refine oK c2 rfl rfl rfl ?_ | refine oK c3 rfl rfl rfl ?_ | refine oK cp rfl rfl rfl ?_) | refine MvQ.stay ?_)
          (refine rqK rfl ?_; (repeat' first | exact rfl | (refine qS ?_; constructor)))
        have e1 : (cpE s t l).2 = 0 := cpE_0 h0 hp
        rw [e1] at cp
        generalize (cpE s t l).1 = v at *
        (repeat' first | (refine Owe.same ?_; first | refine Owe.o ?_ | refine Owe.mk ?_ ?_) | (refine Fork.same ?_; (first | refine fkY ?_ | refine fkF ?_ | ((first | refine fkD ?_ ?_ | refine fkN ?_ ?_ | refine fkM ?_ ?_) <;> intro h))) | ((first | refine OpsL.same ?_ | refine OpsDL.same ?_); first | refine oK c1 rfl rfl rfl ?_ | refine oK c2 rfl rfl rfl ?_ | refine oK c3 rfl rfl rfl ?_ | refine oK cp rfl rfl rfl ?_) | refine MvQ.stay ?_)
        (repeat' first | (refine Owe.same ?_; first | refine Owe.o ?_ | refine Owe.mk ?_ ?_) | (refine Fork.same ?_; (first | refine fkD ?_ ?_ | refine fkN ?_ ?_ | refine fkM ?_ ?_) <;> intro h) | refine MvQ.stay ?_)
        refine Sat.nilS 20 3 1 (fun i => r1 (([] : List Int).getD i 0)) rfl ?_
        refine Sat.lp (fun n : Nat => ⟨[(21, vi .i64 ((n : Int) - 1)), (20, .c (.ms 0 ((l.drop n).reverse).length)), (2, .c (ints l)), (3, .c (.rp (siD s))), (4, .c (.rp (stD t)))], [(0, rowv 3 1 r1 0 ((l.drop n).reverse))], 1⟩) (fun n => n ≤ l.length) (fun n => n) l.length [8] (Nat.le_refl _) ?_ ?_
        · simp only [List.drop_length, List.reverse_nil]
          (refine qis ?_ ?_ <;> (repeat' first | exact rfl | (refine qS ?_; constructor)))
        · intro n hn
          match n, hn with
          | 0, _ =>
            have hperm : l.reverse.Perm l := List.reverse_perm l
            obtain ⟨z1, z2⟩ := perm_ok hO hp hperm
            have hgo := goE_0 h0 z1 z2
            have htg : tgB s t l.reverse = true := togB_perm l hO (eachN_ok.1 hp) hperm
            have c28 := fun {id nx} => C28r (s := s) (t := t) (l := l.reverse) (id := id) (nx := nx) (n := l.reverse.length) (m := l.reverse.length) (e := 3) (g := fun i => r1 (l.reverse.getD i 0)) rfl (Nat.le_refl _) (fun _ _ => rfl) ⟨hs, by omega, by simp; omega⟩
            rw [hgo, htg, decide_eq_true rfl, Bool.and_self] at c28
            rw [List.drop_zero]
            (repeat' first | (refine Owe.same ?_; first | refine Owe.o ?_ | refine Owe.mk ?_ ?_) | (refine Fork.same ?_; (first | refine fkY ?_ | refine fkF ?_ | ((first | refine fkD ?_ ?_ | refine fkN ?_ ?_ | refine fkM ?_ ?_) <;> intro h))) | ((first | refine OpsL.same ?_ | refine OpsDL.same ?_); first | refine oK c1 rfl rfl rfl ?_ | refine oK c2 rfl rfl rfl ?_) | refine MvQ.stay ?_)
            refine OpsDL.cm [(0, .row 3 1 l.reverse.length (fun i => r1 (l.reverse.getD i 0)) false)] [] c28 (sub_cons rfl sub_nil) rfl rfl (RIs.rfl' _) ?_
            (repeat' first | (refine Owe.same ?_; first | refine Owe.o ?_ | refine Owe.mk ?_ ?_) | (refine Fork.same ?_; (first | refine fkY ?_ | refine fkF ?_ | ((first | refine fkD ?_ ?_ | refine fkN ?_ ?_ | refine fkM ?_ ?_) <;> intro h))) | ((first | refine OpsL.same ?_ | refine OpsDL.same ?_); first | refine oK c1 rfl rfl rfl ?_) | refine MvQ.stay ?_)
            (refine rqK rfl ?_; (repeat' first | exact rfl | (refine qS ?_; constructor)))
          | m + 1, hn =>
            have em : (((m + 1 : Nat) : Int) - 1).toNat = m := by omega
            have hdr : (l.drop m).reverse = (l.drop (m + 1)).reverse ++ [l.getD m 0] := by
              rw [List.drop_eq_getElem_cons (show m < l.length by omega), List.reverse_cons, List.getD_eq_getElem?_getD, List.getElem?_eq_getElem (show m < l.length by omega)]; rfl
            have hlr : ((l.drop (m + 1)).reverse).length ≤ 1000000 := by simp; omega
            (repeat' first | (refine Owe.same ?_; first | refine Owe.o ?_ | refine Owe.mk ?_ ?_) | (refine Fork.same ?_; (first | refine fkY ?_ | refine fkF ?_ | ((first | refine fkD ?_ ?_ | refine fkN ?_ ?_ | refine fkM ?_ ?_) <;> intro h))) | ((first | refine OpsL.same ?_ | refine OpsDL.same ?_); first | refine oK c1 rfl rfl rfl ?_) | refine MvQ.stay ?_)
            (repeat' first | (refine Owe.same ?_; first | refine Owe.o ?_ | refine Owe.mk ?_ ?_) | (refine Fork.same ?_; (first | refine fkD ?_ ?_ | refine fkN ?_ ?_ | refine fkM ?_ ?_) <;> intro h) | refine MvQ.stay ?_)
            refine again m [1] (by omega) (by show m < m + 1; omega) ?_
            rw [hdr]
            (refine qis ?_ ?_ <;> (repeat' first | exact rfl | (refine qS ?_; constructor)))
            · omega
            · simp
            · rw [em]
  
    · refine pi1 fn6 ?_
      (repeat' first | (refine Owe.same ?_; first | refine Owe.o ?_ | refine Owe.mk ?_ ?_) | (refine Fork.same ?_; (first | refine fkY ?_ | refine fkF ?_ | ((first | refine fkD ?_ ?_ | refine fkN ?_ ?_ | refine fkM ?_ ?_) <;> intro h))) | ((first | refine OpsL.same ?_ | refine OpsDL.same ?_); first | refine oK C9 rfl rfl rfl ?_ | refine oK f1 rfl rfl rfl ?_ | refine oK f2 rfl rfl rfl ?_ | refine oK f3 rfl rfl rfl ?_ | refine oK c1 rfl rfl rfl ?_ | refine oK c2 rfl rfl rfl ?_ | refine oK c3 rfl rfl rfl ?_ | refine oK c27 rfl rfl rfl ?_ | refine oK c28a rfl rfl rfl ?_ | refine oK c3m rfl rfl rfl ?_) | refine MvQ.stay ?_)
      (repeat' first | (refine Owe.same ?_; first | refine Owe.o ?_ | refine Owe.mk ?_ ?_) | (refine Fork.same ?_; (first | refine fkD ?_ ?_ | refine fkN ?_ ?_ | refine fkM ?_ ?_) <;> intro h) | refine MvQ.stay ?_)
      refine Sat.lp0 (fun k : Nat => [(11, vi .i64 k), (7, .c (ints m)), (2, .c (ints l)), (3, .c (.rp (siD s))), (4, .c (.rp (stD t)))]) (fun k => k ≤ m.length) (fun k => m.length - k) 0 (Nat.zero_le _) (by ((first | refine qen ?_ | refine qvs ?_ | refine qeq ?_ | refine qst ?_ | refine qv ?_ | refine qc ?_ | refine qe ?_ | refine qcs ?_ | skip); (repeat' first | exact rfl | (refine qS ?_; constructor)))) ?_
      intro k hk
      refine Fork.dec (fun hlt => ?_) (fun hlt => ?_)
      · have hlt : k < m.length := by omega
        obtain ⟨w1, w2⟩ := hwo k hlt
        have hwl := wo_len hlt
        have hF : ∀ j, j < k + (m.length - (k + 1)) → (if j < k then r1 (m.getD j 0) else r1 (m.getD (k + 1 + (j - k)) 0)) = r1 ((wo m k).getD j 0) := fun j hj => by
          by_cases h1 : j < k
          · rw [if_pos h1]
            congr 1
            simp only [wo, List.getD_eq_getElem?_getD]
            rw [List.getElem?_append_left (by rw [List.length_take]; omega), List.getElem?_take, if_pos h1]
          · rw [if_neg h1]
            congr 1
            simp only [wo, List.getD_eq_getElem?_getD]
            rw [List.getElem?_append_right (by rw [List.length_take]; omega), List.length_take, Nat.min_eq_left (by omega), List.getElem?_drop]
        by_cases hk0 : k = 0
        · subst hk0
          have c28 := fun {id nx} => C28r (s := s) (t := t) (l := wo m 0) (id := id) (nx := nx) (n := m.length - 1) (m := m.length - 1) (e := 3) (g := fun j => r1 (m.getD (1 + j) 0)) (by omega) (Nat.le_refl _) (fun j hj => by have := hF j (by omega); rwa [if_neg (by omega), Nat.sub_zero] at this) ⟨hs, by omega, by omega⟩
          rw [w1, w2, decide_eq_true rfl, Bool.and_self] at c28
          (repeat' first | (refine Owe.same ?_; first | refine Owe.o ?_ | refine Owe.mk ?_ ?_) | (refine Fork.same ?_; (first | refine fkY ?_ | refine fkF ?_ | ((first | refine fkD ?_ ?_ | refine fkN ?_ ?_ | refine fkM ?_ ?_) <;> intro h))) | ((first | refine OpsL.same ?_ | refine OpsDL.same ?_); first | refine oK c1 rfl rfl rfl ?_ | refine oK c2 rfl rfl rfl ?_ | refine oK C29e rfl rfl rfl ?_) | refine MvQ.stay ?_)
          refine OpsDL.cm [(9, _)] [] c28 (sub_cons rfl sub_nil) rfl rfl (RIs.rfl' _) ?_
          (repeat' first | (refine Owe.same ?_; first | refine Owe.o ?_ | refine Owe.mk ?_ ?_) | (refine Fork.same ?_; (first | refine fkY ?_ | refine fkF ?_ | ((first | refine fkD ?_ ?_ | refine fkN ?_ ?_ | refine fkM ?_ ?_) <;> intro h))) | ((first | refine OpsL.same ?_ | refine OpsDL.same ?_); first | refine oK c1 rfl rfl rfl ?_) | refine MvQ.stay ?_)
          exact again0 1 hlt (by omega) (by ((first | refine qen ?_ | refine qvs ?_ | refine qeq ?_ | refine qst ?_ | refine qv ?_ | refine qc ?_ | refine qe ?_ | refine qcs ?_ | skip); (repeat' first | exact rfl | (refine qS ?_; constructor))))
        · have c28 := fun {id nx} => C28r (s := s) (t := t) (l := wo m k) (id := id) (nx := nx) (n := k + (m.length - (k + 1))) (m := k + (m.length - (k + 1))) (e := 3) (g := fun j => if j < k then r1 (m.getD j 0) else r1 (m.getD (k + 1 + (j - k)) 0)) (by omega) (Nat.le_refl _) hF ⟨hs, by omega, by omega⟩
          rw [w1, w2, decide_eq_true rfl, Bool.and_self] at c28
          (repeat' first | (refine Owe.same ?_; first | refine Owe.o ?_ | refine Owe.mk ?_ ?_) | (refine Fork.same ?_; (first | refine fkY ?_ | refine fkF ?_ | ((first | refine fkD ?_ ?_ | refine fkN ?_ ?_ | refine fkM ?_ ?_) <;> intro h))) | ((first | refine OpsL.same ?_ | refine OpsDL.same ?_); first | refine oK c1 rfl rfl rfl ?_ | refine oK c2 rfl rfl rfl ?_) | refine MvQ.stay ?_)
          refine OpsDL.cd (C29o (m := k) (g := fun i => r1 (m.getD i 0)) ⟨by omega, by omega⟩) rfl rfl (RIs.rfl' _) ?_
          (repeat' first | (refine Owe.same ?_; first | refine Owe.o ?_ | refine Owe.mk ?_ ?_) | (refine Fork.same ?_; (first | refine fkY ?_ | refine fkF ?_ | ((first | refine fkD ?_ ?_ | refine fkN ?_ ?_ | refine fkM ?_ ?_) <;> intro h))) | ((first | refine OpsL.same ?_ | refine OpsDL.same ?_); first | refine oK c1 rfl rfl rfl ?_) | refine MvQ.stay ?_)
          refine OpsDL.cm [(10, _)] [] c28 (sub_cons rfl sub_nil) rfl rfl (RIs.rfl' _) ?_
          (repeat' first | (refine Owe.same ?_; first | refine Owe.o ?_ | refine Owe.mk ?_ ?_) | (refine Fork.same ?_; (first | refine fkY ?_ | refine fkF ?_ | ((first | refine fkD ?_ ?_ | refine fkN ?_ ?_ | refine fkM ?_ ?_) <;> intro h))) | ((first | refine OpsL.same ?_ | refine OpsDL.same ?_); first | refine oK c1 rfl rfl rfl ?_) | refine MvQ.stay ?_)
          exact again0 (k + 1) hlt (by omega) (by ((first | refine qen ?_ | refine qvs ?_ | refine qeq ?_ | refine qst ?_ | refine qv ?_ | refine qc ?_ | refine qe ?_ | refine qcs ?_ | skip); (repeat' first | exact rfl | (refine qS ?_; constructor))))
      · have : k = m.length := by omega
        subst this
        clear hwo hlt hk
        by_cases hp : (prE s t l).2 = 0
        rotate_left
        · have cp := cp
          have e1 : (cpE s t l).2 = (prE s t l).2 := by rw [cpE, if_pos h0, if_neg hp]
          rw [e1] at cp
          generalize (cpE s t l).1 = v at *
          generalize (prE s t l).2 = e at *
          (repeat' first | (refine Owe.same ?_; first | refine Owe.o ?_ | refine Owe.mk ?_ ?_) | (refine Fork.same ?_; (first | refine fkY ?_ | refine fkF ?_ | ((first | refine fkD ?_ ?_ | refine fkN ?_ ?_ | refine fkM ?_ ?_) <;> intro h))) | ((first | refine OpsL.same ?_ | refine OpsDL.same ?_); first | refine oK c1 rfl rfl rfl ?_ | refine oK c2 rfl rfl rfl ?_ | refine oK c3 rfl rfl rfl ?_ | refine oK cp rfl rfl rfl ?_) | refine MvQ.stay ?_)
          (refine rqK rfl ?_; (repeat' first | exact rfl | (refine qS ?_; constructor)))
        have e1 : (cpE s t l).2 = 0 := cpE_0 h0 hp
        rw [e1] at cp
        generalize (cpE s t l).1 = v at *
        (repeat' first | (refine Owe.same ?_; first | refine Owe.o ?_ | refine Owe.mk ?_ ?_) | (refine Fork.same ?_; (first | refine fkY ?_ | refine fkF ?_ | ((first | refine fkD ?_ ?_ | refine fkN ?_ ?_ | refine fkM ?_ ?_) <;> intro h))) | ((first | refine OpsL.same ?_ | refine OpsDL.same ?_); first | refine oK c1 rfl rfl rfl ?_ | refine oK c2 rfl rfl rfl ?_ | refine oK c3 rfl rfl rfl ?_ | refine oK cp rfl rfl rfl ?_) | refine MvQ.stay ?_)
        (repeat' first | (refine Owe.same ?_; first | refine Owe.o ?_ | refine Owe.mk ?_ ?_) | (refine Fork.same ?_; (first | refine fkD ?_ ?_ | refine fkN ?_ ?_ | refine fkM ?_ ?_) <;> intro h) | refine MvQ.stay ?_)
        refine Sat.nilS 20 3 1 (fun i => r1 (([] : List Int).getD i 0)) rfl ?_
        refine Sat.lp (fun n : Nat => ⟨[(21, vi .i64 ((n : Int) - 1)), (20, .c (.ms 0 ((l.drop n).reverse).length)), (2, .c (ints l)), (3, .c (.rp (siD s))), (4, .c (.rp (stD t)))], [(0, rowv 3 1 r1 0 ((l.drop n).reverse))], 1⟩) (fun n => n ≤ l.length) (fun n => n) l.length [8] (Nat.le_refl _) ?_ ?_
        · simp only [List.drop_length, List.reverse_nil]
          (refine qis ?_ ?_ <;> (repeat' first | exact rfl | (refine qS ?_; constructor)))
        · intro n hn
          match n, hn with
          | 0, _ =>
            have hperm : l.reverse.Perm l := List.reverse_perm l
            obtain ⟨z1, z2⟩ := perm_ok hO hp hperm
            have hgo := goE_0 h0 z1 z2
            have htg : tgB s t l.reverse = true := togB_perm l hO (eachN_ok.1 hp) hperm
            have c28 := fun {id nx} => C28r (s := s) (t := t) (l := l.reverse) (id := id) (nx := nx) (n := l.reverse.length) (m := l.reverse.length) (e := 3) (g := fun i => r1 (l.reverse.getD i 0)) rfl (Nat.le_refl _) (fun _ _ => rfl) ⟨hs, by omega, by simp; omega⟩
            rw [hgo, htg, decide_eq_true rfl, Bool.and_self] at c28
            rw [List.drop_zero]
            (repeat' first | (refine Owe.same ?_; first | refine Owe.o ?_ | refine Owe.mk ?_ ?_) | (refine Fork.same ?_; (first | refine fkY ?_ | refine fkF ?_ | ((first | refine fkD ?_ ?_ | refine fkN ?_ ?_ | refine fkM ?_ ?_) <;> intro h))) | ((first | refine OpsL.same ?_ | refine OpsDL.same ?_); first | refine oK c1 rfl rfl rfl ?_ | refine oK c2 rfl rfl rfl ?_) | refine MvQ.stay ?_)
            refine OpsDL.cm [(0, .row 3 1 l.reverse.length (fun i => r1 (l.reverse.getD i 0)) false)] [] c28 (sub_cons rfl sub_nil) rfl rfl (RIs.rfl' _) ?_
            (repeat' first | (refine Owe.same ?_; first | refine Owe.o ?_ | refine Owe.mk ?_ ?_) | (refine Fork.same ?_; (first | refine fkY ?_ | refine fkF ?_ | ((first | refine fkD ?_ ?_ | refine fkN ?_ ?_ | refine fkM ?_ ?_) <;> intro h))) | ((first | refine OpsL.same ?_ | refine OpsDL.same ?_); first | refine oK c1 rfl rfl rfl ?_) | refine MvQ.stay ?_)
            (refine rqK rfl ?_; (repeat' first | exact rfl | (refine qS ?_; constructor)))
          | m + 1, hn =>
            have em : (((m + 1 : Nat) : Int) - 1).toNat = m := by omega
            have hdr : (l.drop m).reverse = (l.drop (m + 1)).reverse ++ [l.getD m 0] := by
              rw [List.drop_eq_getElem_cons (show m < l.length by omega), List.reverse_cons, List.getD_eq_getElem?_getD, List.getElem?_eq_getElem (show m < l.length by omega)]; rfl
            have hlr : ((l.drop (m + 1)).reverse).length ≤ 1000000 := by simp; omega
            (repeat' first | (refine Owe.same ?_; first | refine Owe.o ?_ | refine Owe.mk ?_ ?_) | (refine Fork.same ?_; (first | refine fkY ?_ | refine fkF ?_ | ((first | refine fkD ?_ ?_ | refine fkN ?_ ?_ | refine fkM ?_ ?_) <;> intro h))) | ((first | refine OpsL.same ?_ | refine OpsDL.same ?_); first | refine oK c1 rfl rfl rfl ?_) | refine MvQ.stay ?_)
            (repeat' first | (refine Owe.same ?_; first | refine Owe.o ?_ | refine Owe.mk ?_ ?_) | (refine Fork.same ?_; (first | refine fkD ?_ ?_ | refine fkN ?_ ?_ | refine fkM ?_ ?_) <;> intro h) | refine MvQ.stay ?_)
            refine again m [1] (by omega) (by show m < m + 1; omega) ?_
            rw [hdr]
            (refine qis ?_ ?_ <;> (repeat' first | exact rfl | (refine qS ?_; constructor)))
            · omega
            · simp
            · rw [em]
end Go.Pw

namespace Go.Proofs.Ytnimcgmgnmlfgaa
open Go.ChangeShapes Go.WideShapes Go.ChangeAt Go.RowKit Go.Pw
theorem Try.own : ownKnob Try.prog.godebug = none := by kernel_rfl
theorem Try.laidOut : laidOutB Try.prog = true := by kernel_rfl
theorem shapes : shAll Try.prog [27, 29, 24] = some [(true, siSh), (true, stSh), (false, [.sl [.int .i64]])] := by kernel_rfl
theorem law (args : List V) (h : ArgOk [(true, siSh), (true, stSh), (false, [.sl [.int .i64]])] args) : PFD Try.prog 6 args (vbl true) := by
  match args, h with
  | [v0, v1, v2], ⟨h0, h1, h2, _⟩ =>
    obtain ⟨s0, r0, q0⟩ := arg_site h0
    obtain ⟨t1, r1, q1⟩ := arg_state h1
    obtain ⟨l2, r2, q2⟩ := arg_ints h2
    exact PFD.ri C6 (.cons r0 (.cons r1 (.cons r2 .nil)))
set_option maxRecDepth 100000 in
theorem lifted (os : Os) (started : os.Started) (H : Type) (enc : TypeId × Value → H) :
    ReturnsInHanded {} Try.checked os 6 .any (Rows.diveApartSpec.pre6 enc Try.prog Try.f6 Rows.diveApartRow.domain false) (Rows.diveApartSpec.post enc Try.prog Try.f6 false true false false) := by
  refine returnsInHanded_of_change (C := Try.checked) Try.own started (by kernel_rfl) Try.func6
    (ChangeSpec.witness6 (enc := enc) (C := Try.checked) false ⟨#[], #[.agg #[.slice none 0 0, .slice none 0 0, .slice none 0 0, .slice none 0 0, .int .i64 0, .int .i64 0, .int .i64 0, .int .i64 0], .agg #[.int .i64 0, .int .i64 0, .int .i64 0, .int .i64 0, .slice none 0 0], .slice none 0 0], []⟩ 8 (by kernel_rfl) (by kernel_rfl) (by kernel_rfl) (by kernel_rfl)) ?_
  intro W base args ds gs before hval0 hW hcnd _
  exact law_calls (P := Try.prog) (F := Try.f6) (tb := 4) Try.laidOut (by rw [Try.params6]; exact shapes) rfl (fun ds hl => by
    rw [Try.params6] at hl
    match ds, hl with
    | [d0, d1, d2], _ => rfl) (by kernel_rfl) Try.underlying4 law W base args ds gs before hval0 hW
theorem row_holds : Rows.DiveApartSaid :=
  OpenClaim.holds_of_wide 6 Try.f6 rfl rfl rfl rfl rfl rfl rfl ⟨rfl, rfl, rfl, rfl, rfl⟩ rfl rfl rfl rfl rfl (by kernel_rfl) Try.func6 (by kernel_rfl)
    (of_decide_eq_true (by kernel_rfl)) (by unfold Func.isWrapper; rw [if_neg (by decide +kernel)]; exact ⟨rfl, rfl⟩)
    (fun os started H enc _ => lifted os started H enc)
end Go.Proofs.Ytnimcgmgnmlfgaa
