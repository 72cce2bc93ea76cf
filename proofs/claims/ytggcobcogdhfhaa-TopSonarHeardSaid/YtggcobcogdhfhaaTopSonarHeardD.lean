/- Proved here at the end: the row named in the last theorem, on no condition. -/
import Derived.Test.YtggcobcogdhfhaaTopSonarHeardC
import Derived.Test.YtggcobcogdhfhaaProg
import Derived.Test.YtggcobcogdhfhaaRows
set_option linter.unusedSimpArgs false
set_option linter.unusedVariables false
namespace Go.Pw
set_option maxRecDepth 2000
open Go Go.Proofs A1 A2 A3 A4
abbrev Dv := Int × Int × Int
abbrev tr (d : Dv) : V := .agg [int d.1, int d.2.1, int d.2.2]
/-- A device in range. -/
abbrev dvOk (d : Dv) : Prop := (0 ≤ d.1 ∧ d.1 ≤ 20) ∧ (1 ≤ d.2.1 ∧ d.2.1 ≤ 10) ∧ 0 ≤ d.2.2 ∧ d.2.2 ≤ 10
abbrev win (d : Dv) : Int := d.2.1 + d.2.2
abbrev dist (a b : Dv) : Bool := decide (max (a.1 - b.1) (-(a.1 - b.1)) ≤ 1)
theorem C46 {a b : Dv} : (dvOk a ∧ dvOk b) → PFD Try.prog 46 [tr a, tr b] (vbl (dist a b)) := fun ⟨ha, hb⟩ => by
  refine pi1 fn46 ?_
  (repeat' first | (refine Owe.same ?_; first | refine Owe.o ?_ | refine Owe.mk ?_ ?_) | (refine Fork.same ?_; (first | refine fkD ?_ ?_ | refine fkN ?_ ?_ | refine fkM ?_ ?_) <;> intro h) | ((first | refine OpsL.same ?_ | refine OpsDL.same ?_); first | refine pK C62 rfl rfl ?_) | refine MvQ.stay ?_)
  (refine rqK rfl ?_; (repeat' first | exact rfl | (refine qS ?_; constructor)))
theorem C47 {d : Dv} : dvOk d → PFD Try.prog 47 [tr d] (vi .i64 (win d)) := fun h => by
  refine pi1 fn47 ?_
  (repeat' first | (refine Owe.same ?_; first | refine Owe.o ?_ | refine Owe.mk ?_ ?_) | (refine Fork.same ?_; (first | refine fkD ?_ ?_ | refine fkN ?_ ?_ | refine fkM ?_ ?_) <;> intro h) | refine MvQ.stay ?_)
  (refine rqK rfl ?_; (repeat' first | exact rfl | (refine qS ?_; constructor)))
def cyE (n : Int) : Int := unl (1 ≤ n ∧ n ≤ 40) 2
theorem C48 {n : Int} : PFD Try.prog 48 [vi .i64 n] (vi .i64 (cyE n)) := by
  refine pi1 fn48 ?_
  (repeat' first | (refine Owe.same ?_; first | refine Owe.o ?_ | refine Owe.mk ?_ ?_) | (refine Fork.same ?_; (first | refine fkD ?_ ?_ | refine fkN ?_ ?_ | refine fkM ?_ ?_) <;> intro h) | ((first | refine OpsL.same ?_ | refine OpsDL.same ?_); first | refine pK C42 rfl rfl ?_ | refine pK C41 rfl rfl ?_) | refine MvQ.stay ?_)
  (refine rqK rfl ?_; (repeat' first | exact rfl | (refine qS ?_; constructor)))
def dvE (d : Dv) : Int := unl (dvOk d) 2
theorem C74 {i : Int} {d : Dv} : PFD Try.prog 74 [vi .i64 i, tr d] (vi .i64 (dvE d)) := by
  refine pi1 fn74 ?_
  (repeat' first | (refine Owe.same ?_; first | refine Owe.o ?_ | refine Owe.mk ?_ ?_) | (refine Fork.same ?_; (first | refine fkD ?_ ?_ | refine fkN ?_ ?_ | refine fkM ?_ ?_) <;> intro h) | ((first | refine OpsL.same ?_ | refine OpsDL.same ?_); first | refine pK C42 rfl rfl ?_ | refine pK C41 rfl rfl ?_) | refine MvQ.stay ?_)
  all_goals ((refine rqK rfl ?_; (repeat' first | exact rfl | (refine qS ?_; constructor))); rw [dvE]; refine congrArg (fun b => unb b 2) ?_; rw [Bool.eq_iff_iff]; (try simp only [decide_eq_true_eq, Bool.false_eq_true, false_iff]); omega)
theorem C73 {g : FuncId} {f : Dv → Int} (hg : ∀ (i : Int) (x : Dv), PFD Try.prog g [vi .i64 i, tr x] (vi .i64 (f x))) {l : List Dv} : l.length ≤ 1000000 → PFD Try.prog 73 [.c (trs l), .c (.fn g [])] (.tup [vi .i64 (eachE f 0 l).1, vi .i64 (eachE f 0 l).2]) := fun hl => by
  refine pi2 fn73 ?_
  (repeat' first | (refine Owe.same ?_; first | refine Owe.o ?_ | refine Owe.mk ?_ ?_) | (refine Fork.same ?_; (first | refine fkD ?_ ?_ | refine fkN ?_ ?_ | refine fkM ?_ ?_) <;> intro h) | refine MvQ.stay ?_)
  refine Sat.lp0 (fun k : Nat => [(11, vi .i64 k), (10, vi .i64 l.length), (9, .c (trs l)), (1, .c (.fn g []))]) (fun k => k ≤ l.length ∧ eachE f 0 l = eachE f k (l.drop k)) (fun k => l.length - k) 0 ⟨Nat.zero_le _, rfl⟩ (by ((first | refine qen ?_ | refine qvs ?_ | refine qeq ?_ | refine qst ?_ | refine qv ?_ | refine qc ?_ | refine qe ?_ | refine qcs ?_ | skip); (repeat' first | exact rfl | (refine qS ?_; constructor)))) ?_
  intro k hk
  (repeat' first | (refine Owe.same ?_; first | refine Owe.o ?_ | refine Owe.mk ?_ ?_) | (refine Fork.same ?_; (first | refine fkD ?_ ?_ | refine fkN ?_ ?_ | refine fkM ?_ ?_) <;> intro h) | ((first | refine OpsL.same ?_ | refine OpsDL.same ?_); first | refine pK (hg _ _) rfl rfl ?_) | refine MvQ.stay ?_)
  · have e := eachE_drop f (0, 0, 0) l k (by omega)
    have h : ¬ f (l.getD k (0, 0, 0)) = 0 := h
    rw [if_neg h, ← hk.2] at e
    (refine rqK rfl ?_; (repeat' first | exact rfl | (refine qS ?_; constructor))) <;> rw [e] <;> rfl
  · have e := eachE_drop f (0, 0, 0) l k (by omega)
    have h : f (l.getD k (0, 0, 0)) = 0 := h
    rw [if_pos h, ← hk.2] at e
    exact again0 (k + 1) ⟨by omega, e⟩ (by omega) (by ((first | refine qen ?_ | refine qvs ?_ | refine qeq ?_ | refine qst ?_ | refine qv ?_ | refine qc ?_ | refine qe ?_ | refine qcs ?_ | skip); (repeat' first | exact rfl | (refine qS ?_; constructor))))
  · have e : eachE f 0 l = (0, 0) := by rw [hk.2, List.drop_of_length_le (by omega)]; rfl
    (refine rqK rfl ?_; (repeat' first | exact rfl | (refine qS ?_; constructor))) <;> rw [e]
/-- The error of devices, with an index. -/
def dvsE (l : List Dv) : Int × Int := if cntE l.length 5 = 0 then eachE dvE 0 l else (0, cntE l.length 5)
theorem C61 {l : List Dv} : l.length ≤ 1000000 → PFD Try.prog 61 [.c (trs l)] (.tup [vi .i64 (dvsE l).1, vi .i64 (dvsE l).2]) := fun hl => by
  have c1 := C73 (fun i x => C74 (i := i) (d := x)) hl
  refine pi2 fn61 ?_
  (repeat' first | (refine Owe.same ?_; first | refine Owe.o ?_ | refine Owe.mk ?_ ?_) | (refine Fork.same ?_; (first | refine fkD ?_ ?_ | refine fkN ?_ ?_ | refine fkM ?_ ?_) <;> intro h) | ((first | refine OpsL.same ?_ | refine OpsDL.same ?_); first | refine pK C56 rfl rfl ?_ | refine pK c1 rfl rfl ?_) | refine MvQ.stay ?_)
  · have h : ¬ cntE l.length 5 = 0 := h
    (refine rqK rfl ?_; (repeat' first | exact rfl | (refine qS ?_; constructor))) <;> rw [dvsE, if_neg h]
  · have h : cntE l.length 5 = 0 := h
    (refine rqK rfl ?_; (repeat' first | exact rfl | (refine qS ?_; constructor))) <;> rw [dvsE, if_pos h]
theorem C44 {l : List Dv} : l.length ≤ 1000000 → PFD Try.prog 44 [.c (trs l)] (vi .i64 (dvsE l).2) := fun hl => by
  refine pi1 fn44 ?_
  (repeat' first | (refine Owe.same ?_; first | refine Owe.o ?_ | refine Owe.mk ?_ ?_) | (refine Fork.same ?_; (first | refine fkD ?_ ?_ | refine fkN ?_ ?_ | refine fkM ?_ ?_) <;> intro h) | ((first | refine OpsL.same ?_ | refine OpsDL.same ?_); first | refine pK C61 rfl rfl ?_) | refine MvQ.stay ?_)
  (refine rqK rfl ?_; (repeat' first | exact rfl | (refine qS ?_; constructor)))
theorem cntE_ok {n m : Int} : cntE n m = 0 ↔ 0 < n ∧ n ≤ m := by
  rw [cntE, fst0, fst0]
  simp only [unl0 (show (10 : Int) ≠ 0 by decide), unl0 (show (8 : Int) ≠ 0 by decide), fst_nil, and_true]
/-- Valid devices. -/
structure DvOk (l : List Dv) : Prop where
  n : 0 < l.length ∧ l.length ≤ 5
  d : ∀ i, i < l.length → dvOk (l.getD i (0, 0, 0))
theorem dvsE_ok {l : List Dv} : (dvsE l).2 = 0 ↔ DvOk l := by
  constructor
  · intro h
    by_cases h0 : cntE l.length 5 = 0
    · rw [dvsE, if_pos h0, eachE_ok] at h
      have := cntE_ok.1 h0
      exact ⟨by omega, fun i hi => by have := h _ (getD_mem (0, 0, 0) hi); rwa [dvE, unl0 (by decide)] at this⟩
    · rw [dvsE, if_neg h0] at h; exact absurd h h0
  · intro h
    have h0 : cntE l.length 5 = 0 := cntE_ok.2 (by have := h.n; omega)
    rw [dvsE, if_pos h0, eachE_ok]
    intro x hx
    obtain ⟨i, hi, rfl⟩ := List.getElem_of_mem hx
    have := h.d i hi
    rw [List.getD_eq_getElem?_getD, List.getElem?_eq_getElem hi] at this
    rw [dvE, unl0 (by decide)]; exact this
abbrev dv (l : List Dv) (i : Int) : Dv := l.getD i.toNat (0, 0, 0)
/-- The devices of a set disturb each other, up to one of them. -/
def pwB (l : List Dv) (t : List Int) (k : Nat) : Bool := (List.range k).all fun i => (List.range i).all fun j => dist (dv l (t.getD i 0)) (dv l (t.getD j 0))
def wnS (l : List Dv) (t : List Int) : Nat → Int
  | 0 => 0
  | k + 1 => wnS l t k - win (dv l (t.getD k 0))
theorem pwB_succ (l : List Dv) (t : List Int) (k : Nat) : pwB l t (k + 1) = (pwB l t k && (List.range k).all fun j => dist (dv l (t.getD k 0)) (dv l (t.getD j 0))) := by
  simp [pwB, List.range_succ]
def bdC (l : List Dv) (t : List Int) : Int × Bool := if pwB l t t.length = true then (wnS l t t.length, true) else (0, false)
theorem wnS_bd {l : List Dv} {t : List Int} (hl : DvOk l) (ht : ∀ x ∈ t, 0 ≤ x ∧ x < l.length) : ∀ k, k ≤ t.length → -(20 * (k : Int)) ≤ wnS l t k ∧ wnS l t k ≤ 0
  | 0, _ => by simp [wnS]
  | k + 1, hk => by
    have ih := wnS_bd hl ht k (by omega)
    have h1 := ht _ (getD_mem 0 (show k < t.length by omega))
    have h2 := hl.d (t.getD k 0).toNat (by omega)
    simp only [wnS, win, dv]; omega
theorem pwB_le {l : List Dv} {t : List Int} {k m : Nat} (hkm : k ≤ m) (h : pwB l t m = true) : pwB l t k = true := by
  simp only [pwB, List.all_eq_true, List.mem_range] at h ⊢
  exact fun i hi j hj => h i (by omega) j hj
theorem C45 {l : List Dv} {t : List Int} (hl : DvOk l) (htl : t.length ≤ 1000000) (ht : ∀ x ∈ t, 0 ≤ x ∧ x < l.length) : PFD Try.prog 45 [.c (ints t), .c (.rp [.sl 3 l.length fun i => r3 (l.getD i (0, 0, 0))])] (.tup [vi .i64 (bdC l t).1, vbl (bdC l t).2]) := by
  have hn := hl.n
  refine pi2 fn45 ?_
  (repeat' first | (refine Owe.same ?_; first | refine Owe.o ?_ | refine Owe.mk ?_ ?_) | (refine Fork.same ?_; (first | refine fkD ?_ ?_ | refine fkN ?_ ?_ | refine fkM ?_ ?_) <;> intro h) | refine MvQ.stay ?_)
  refine Sat.lp0 (fun k : Nat => [(12, vi .i64 k), (11, vi .i64 t.length), (10, .c (ints t)), (0, .c (ints t)), (1, .c (.rp [.sl 3 l.length fun i => r3 (l.getD i (0, 0, 0))])), (5, vi .i64 (wnS l t k))]) (fun k => k ≤ t.length ∧ pwB l t k = true) (fun k => t.length - k) 0 ⟨Nat.zero_le _, rfl⟩ (by ((first | refine qen ?_ | refine qvs ?_ | refine qeq ?_ | refine qst ?_ | refine qv ?_ | refine qc ?_ | refine qe ?_ | refine qcs ?_ | skip); (repeat' first | exact rfl | (refine qS ?_; constructor)))) ?_
  intro k hk
  have hb := wnS_bd hl ht k hk.1
  refine Fork.dec (fun hlt => ?_) (fun hlt => ?_)
  · have hlt : k < t.length := by omega
    have h1 := ht _ (getD_mem 0 hlt)
    have h2 := hl.d (t.getD k 0).toNat (by omega)
    (repeat' first | (refine Owe.same ?_; first | refine Owe.o ?_ | refine Owe.mk ?_ ?_) | (refine Fork.same ?_; (first | refine fkD ?_ ?_ | refine fkN ?_ ?_ | refine fkM ?_ ?_) <;> intro h) | refine MvQ.stay ?_)
    refine Sat.lp0 (fun j : Nat => [(21, vi .i64 j), (20, vi .i64 k), (19, .c (.d (.sl 1 k fun i => r1 (t.getD i 0)))), (7, vi .i64 (t.getD k 0)), (12, vi .i64 k), (11, vi .i64 t.length), (10, .c (ints t)), (0, .c (ints t)), (1, .c (.rp [.sl 3 l.length fun i => r3 (l.getD i (0, 0, 0))])), (5, vi .i64 (wnS l t k))]) (fun j => j ≤ k ∧ (List.range j).all (fun j => dist (dv l (t.getD k 0)) (dv l (t.getD j 0))) = true) (fun j => k - j) 0 ⟨Nat.zero_le _, rfl⟩ (by ((first | refine qen ?_ | refine qvs ?_ | refine qeq ?_ | refine qst ?_ | refine qv ?_ | refine qc ?_ | refine qe ?_ | refine qcs ?_ | skip); (repeat' first | exact rfl | (refine qS ?_; constructor)))) ?_
    intro j hj
    refine Fork.dec (fun hlj => ?_) (fun hlj => ?_)
    · have hlj : j < k := by omega
      have h3 := ht _ (getD_mem 0 (show j < t.length by omega))
      have h4 := hl.d (t.getD j 0).toNat (by omega)
      have c97 : PFD Try.prog 46 _ _ := C46 (a := dv l (t.getD k 0)) (b := dv l (t.getD j 0)) ⟨h2, h4⟩
      (repeat' first | (refine Owe.same ?_; first | refine Owe.o ?_ | refine Owe.mk ?_ ?_) | (refine Fork.same ?_; (first | refine fkD ?_ ?_ | refine fkN ?_ ?_ | refine fkM ?_ ?_) <;> intro h) | ((first | refine OpsL.same ?_ | refine OpsDL.same ?_); first | refine pK c97 rfl rfl ?_) | refine MvQ.stay ?_)
      · have h : dist (dv l (t.getD k 0)) (dv l (t.getD j 0)) = false := decide_eq_false h
        have e : bdC l t = (0, false) := by
          rw [bdC, if_neg]
          intro hp
          have := pwB_le (show k + 1 ≤ t.length by omega) hp
          rw [pwB_succ, Bool.and_eq_true] at this
          have := (List.all_eq_true.1 this.2) j (List.mem_range.2 hlj)
          rw [h] at this; cases this
        (refine rqK rfl ?_; (repeat' first | exact rfl | (refine qS ?_; constructor))) <;> rw [e]
      · have h : dist (dv l (t.getD k 0)) (dv l (t.getD j 0)) = true := decide_eq_true h
        refine again0 (j + 1) ⟨hlj, ?_⟩ (by omega) (by ((first | refine qen ?_ | refine qvs ?_ | refine qeq ?_ | refine qst ?_ | refine qv ?_ | refine qc ?_ | refine qe ?_ | refine qcs ?_ | skip); (repeat' first | exact rfl | (refine qS ?_; constructor))))
        rw [List.range_succ, List.all_append, hj.2]
        simp only [List.all_cons, List.all_nil, Bool.and_true, Bool.true_and]; exact h
    · have : j = k := by omega
      subst this
      have c98 : PFD Try.prog 47 _ _ := C47 (d := dv l (t.getD j 0)) h2
      have hw : 1 ≤ win (dv l (t.getD j 0)) ∧ win (dv l (t.getD j 0)) ≤ 20 := by simp only [win, dv]; omega
      (repeat' first | (refine Owe.same ?_; first | refine Owe.o ?_ | refine Owe.mk ?_ ?_) | (refine Fork.same ?_; (first | refine fkD ?_ ?_ | refine fkN ?_ ?_ | refine fkM ?_ ?_) <;> intro h) | ((first | refine OpsL.same ?_ | refine OpsDL.same ?_); first | refine pK c98 rfl rfl ?_) | refine MvQ.stay ?_)
      exact again0 (j + 1) ⟨hlt, by rw [pwB_succ, hk.2, hj.2]; rfl⟩ (by omega) (by ((first | refine qen ?_ | refine qvs ?_ | refine qeq ?_ | refine qst ?_ | refine qv ?_ | refine qc ?_ | refine qe ?_ | refine qcs ?_ | skip); (repeat' first | exact rfl | (refine qS ?_; constructor))))
  · have : k = t.length := by omega
    subst this
    (repeat' first | (refine Owe.same ?_; first | refine Owe.o ?_ | refine Owe.mk ?_ ?_) | (refine Fork.same ?_; (first | refine fkD ?_ ?_ | refine fkN ?_ ?_ | refine fkM ?_ ?_) <;> intro h) | refine MvQ.stay ?_)
    have e : bdC l t = (wnS l t t.length, true) := by rw [bdC, if_pos hk.2]
    (refine rqK rfl ?_; (repeat' first | exact rfl | (refine qS ?_; constructor))) <;> rw [e]
/-- The best set for the bound. -/
abbrev bdK (l : List Dv) : BSt := bestK (bdC l) l.length (2 ^ l.length)
theorem bestK_lo {c : List Int → Int × Bool} {n : Nat} {lo : Int} (hlo : lo ≤ 0) (h : ∀ b, lo ≤ (c (subL n b)).1 ∧ (c (subL n b)).1 ≤ 0) : ∀ b, lo ≤ (bestK c n b).p ∧ (bestK c n b).p ≤ 0
  | 0 => by simp [bestK, hlo]
  | b + 1 => by
    have ih := bestK_lo hlo h b
    simp only [bestK]
    split
    · exact h b
    · exact ih
theorem bdC_bd {l : List Dv} (hl : DvOk l) (b : Nat) : -100 ≤ (bdC l (subL l.length b)).1 ∧ (bdC l (subL l.length b)).1 ≤ 0 := by
  have h1 := wnS_bd hl (t := subL l.length b) (fun x hx => subL_mem hx) _ (Nat.le_refl _)
  have h2 : (subL l.length b).length ≤ l.length := fltL_len _ _
  have h3 := hl.n
  rw [bdC]
  split
  · simp only; omega
  · simp
theorem C29 {l : List Dv} : l.length ≤ 1000000 → PFD Try.prog 29 [.c (trs l)] (.tup [.c (ints (if (dvsE l).2 = 0 then (bdK l).l else [])), vi .i64 (if (dvsE l).2 = 0 then -(bdK l).p else 0), vi .i64 (dvsE l).2]) := fun hl => by
  have c1 := C44 hl
  by_cases h0 : (dvsE l).2 = 0
  · have hO := dvsE_ok.1 h0
    have hn := hO.n
    have c2 := C34 (g := 45) (rows := [[.sl 3 l.length fun i => r3 (l.getD i (0, 0, 0))]]) (c := bdC l) (n := l.length) (fun t ht hx => C45 hO ht hx) (show l.length ≤ 20 by omega)
    have hp := bestK_lo (c := bdC l) (n := l.length) (lo := -100) (by decide) (fun b => bdC_bd hO b) (2 ^ l.length)
    rw [if_pos h0, if_pos h0]
    rw [h0] at c1
    refine pi3 fn29 ?_
    (repeat' first | (refine Owe.same ?_; first | refine Owe.o ?_ | refine Owe.mk ?_ ?_) | (refine Fork.same ?_; (first | refine fkD ?_ ?_ | refine fkN ?_ ?_ | refine fkM ?_ ?_) <;> intro h) | ((first | refine OpsL.same ?_ | refine OpsDL.same ?_); first | refine pK c1 rfl rfl ?_ | refine pK c2 rfl rfl ?_) | refine MvQ.stay ?_)
    · exact absurd rfl h
    · (refine rqK rfl ?_; (repeat' first | exact rfl | (refine qS ?_; constructor)))
      exact h0.symm
  · rw [if_neg h0, if_neg h0]
    refine pi3 fn29 ?_
    (repeat' first | (refine Owe.same ?_; first | refine Owe.o ?_ | refine Owe.mk ?_ ?_) | (refine Fork.same ?_; (first | refine fkD ?_ ?_ | refine fkN ?_ ?_ | refine fkM ?_ ?_) <;> intro h) | ((first | refine OpsL.same ?_ | refine OpsDL.same ?_); first | refine pK c1 rfl rfl ?_) | refine MvQ.stay ?_)
    · (refine rqK rfl ?_; (repeat' first | exact rfl | (refine qS ?_; constructor)))
    · exact absurd h h0
end Go.Pw

set_option linter.unusedSimpArgs false
set_option linter.unusedVariables false
namespace Go.Pw
set_option maxRecDepth 2000
open Go Go.Proofs A1 A2 A3 A4
theorem tmod_nn {a b : Int} (ha : 0 ≤ a) (hb : 0 < b) : a.tmod b = a % b ∧ 0 ≤ a % b ∧ a % b < b := ⟨Int.tmod_eq_emod_of_nonneg ha, Int.emod_nonneg _ (by omega), Int.emod_lt_of_pos _ hb⟩
/-- Whether two windows have a common tick. -/
def mtB (a b : Dv) (s t c : Int) : Bool := decide ((t - s + c) % c < win a) || decide ((c - (t - s + c) % c) % c < win b)
theorem C75 {a b : Dv} {s t c : Int} : ((dvOk a ∧ dvOk b) ∧ (0 < c ∧ c ≤ 40) ∧ (0 ≤ s ∧ s < c) ∧ 0 ≤ t ∧ t < c) → PFD Try.prog 75 [tr a, tr b, vi .i64 s, vi .i64 t, vi .i64 c] (vbl (mtB a b s t c)) := fun ⟨⟨ha, hb⟩, hc, hs, ht⟩ => by
  obtain ⟨e1, e2, e3⟩ := tmod_nn (a := t - s + c) (b := c) (by omega) hc.1
  obtain ⟨e4, e5, e6⟩ := tmod_nn (a := c - (t - s + c) % c) (b := c) (by omega) hc.1
  rw [← e1] at e2 e3 e4 e5 e6
  have e : mtB a b s t c = (decide ((t - s + c).tmod c < win a) || decide ((c - (t - s + c).tmod c).tmod c < win b)) := by rw [e4, e1]; rfl
  rw [e]
  refine pi1 fn75 ?_
  (repeat' first | (refine Owe.same ?_; first | refine Owe.o ?_ | refine Owe.mk ?_ ?_) | (refine Fork.same ?_; (first | refine fkD ?_ ?_ | refine fkN ?_ ?_ | refine fkM ?_ ?_) <;> intro h) | ((first | refine OpsL.same ?_ | refine OpsDL.same ?_); first | refine pK C47 rfl rfl ?_) | refine MvQ.stay ?_)
  · (refine rqK rfl ?_; (repeat' first | exact rfl | (refine qS ?_; constructor)))
    rw [decide_eq_true h]; rfl
  · (refine rqK rfl ?_; (repeat' first | exact rfl | (refine qS ?_; constructor)))
    rw [decide_eq_false h]; rfl
theorem C63 {l : List Int} : l.length ≤ 1000000 → PFD Try.prog 63 [.c (ints l)] (.c (.cl 1 l.length fun i => r1 (l.getD i 0))) := fun hl => by
  refine pi1 fn63 ?_
  (repeat' first | (refine Owe.same ?_; first | refine Owe.o ?_ | refine Owe.mk ?_ ?_) | (refine Fork.same ?_; (first | refine fkD ?_ ?_ | refine fkN ?_ ?_ | refine fkM ?_ ?_) <;> intro h) | refine MvQ.stay ?_)
  (refine rqK rfl ?_; (repeat' first | exact rfl | (refine qS ?_; constructor)))
/-- Whether two devices blind each other, or one itself. -/
def blB (l : List Dv) (st : List Int) (i k : Nat) (c : Int) : Bool :=
  if i = k then decide (c < win (l.getD i (0, 0, 0))) else dist (l.getD i (0, 0, 0)) (l.getD k (0, 0, 0)) && mtB (l.getD i (0, 0, 0)) (l.getD k (0, 0, 0)) (st.getD i 0) (st.getD k 0) c
/-- Starts within a cycle. -/
abbrev stOk (st : List Int) (c : Int) : Prop := ∀ i, i < st.length → 0 ≤ st.getD i 0 ∧ st.getD i 0 < c
theorem C64 {l : List Dv} {st : List Int} {i k : Nat} {c : Int} : (DvOk l ∧ (0 < c ∧ c ≤ 40) ∧ stOk st c ∧ (i < l.length ∧ k < l.length) ∧ i < st.length ∧ k < st.length) → PFD Try.prog 64 [.c (trs l), .c (ints st), vi .i64 i, vi .i64 k, vi .i64 c] (vbl (blB l st i k c)) := fun ⟨hl, hc, hs, hi, hst⟩ => by
  have h1 := hl.d i hi.1
  have h2 := hl.d k hi.2
  have h3 := hs i hst.1
  have h4 := hs k hst.2
  have c98 : PFD Try.prog 47 _ _ := C47 (d := l.getD i (0, 0, 0)) h1
  have c97 : PFD Try.prog 46 _ _ := C46 (a := l.getD i (0, 0, 0)) (b := l.getD k (0, 0, 0)) ⟨h1, h2⟩
  have c128 : PFD Try.prog 75 _ _ := C75 (a := l.getD i (0, 0, 0)) (b := l.getD k (0, 0, 0)) (s := st.getD i 0) (t := st.getD k 0) (c := c) ⟨⟨h1, h2⟩, hc, h3, h4⟩
  refine pi1 fn64 ?_
  (repeat' first | (refine Owe.same ?_; first | refine Owe.o ?_ | refine Owe.mk ?_ ?_) | (refine Fork.same ?_; (first | refine fkD ?_ ?_ | refine fkN ?_ ?_ | refine fkM ?_ ?_) <;> intro h) | ((first | refine OpsL.same ?_ | refine OpsDL.same ?_); first | refine pK c98 rfl rfl ?_ | refine pK c97 rfl rfl ?_ | refine pK c128 rfl rfl ?_) | refine MvQ.stay ?_)
  · have : i = k := by omega
    subst this
    (refine rqK rfl ?_; (repeat' first | exact rfl | (refine qS ?_; constructor)))
    rw [blB, if_pos rfl]
  · rename_i h5
    have h : dist (l.getD i (0, 0, 0)) (l.getD k (0, 0, 0)) = true := decide_eq_true h
    (refine rqK rfl ?_; (repeat' first | exact rfl | (refine qS ?_; constructor)))
    rw [blB, if_neg (by omega), h]; rfl
  · rename_i h5
    have h : dist (l.getD i (0, 0, 0)) (l.getD k (0, 0, 0)) = false := decide_eq_false h
    (refine rqK rfl ?_; (repeat' first | exact rfl | (refine qS ?_; constructor)))
    rw [blB, if_neg (by omega), h]; rfl
def tryL (g : Nat → Option (Option (List Int))) : Nat → Nat → Option (List Int)
  | 0, _ => none
  | r + 1, n => match g n with
    | none => tryL g r (n + 1)
    | some o => o
/-- A device that is placed blinds one before it, or itself. -/
def blk (l : List Dv) (st : List Int) (c : Int) (k : Nat) : Bool := (List.range k).any fun j => blB l st j (st.length - 1) c
def plS (l : List Dv) (c : Nat) : Nat → List Int → Option (List Int)
  | 0, st => some st
  | f + 1, st => tryL (fun n => if blk l (st ++ [(n : Int)]) c (st.length + 1) = true then none else match plS l c f (st ++ [(n : Int)]) with
    | some o => some (some o)
    | none => if st.length = 0 then some none else none) c 0
def plV : Option (List Int) → V
  | none => .c (.d (.v (.slice none 0 0)))
  | some o => .c (ints o)
theorem tryL_pos {g : Nat → Option (Option (List Int))} {P : List Int → Prop} (h : ∀ n o, g n = some (some o) → P o) : ∀ (r n : Nat) (o : List Int), tryL g r n = some o → P o
  | 0, n, o, e => by cases e
  | r + 1, n, o, e => by
    rw [tryL] at e
    split at e
    · exact tryL_pos h r (n + 1) o e
    · rename_i q hq
      subst e
      exact h n o hq
theorem plS_len {l : List Dv} {c : Nat} : ∀ (f : Nat) (st o : List Int), plS l c f st = some o → o.length = st.length + f
  | 0, st, o, h => by simp only [plS, Option.some.injEq] at h; subst h; rfl
  | f + 1, st, o, h => by
    rw [plS] at h
    refine tryL_pos (P := fun o => o.length = st.length + (f + 1)) (fun n o hn => ?_) _ _ _ h
    split at hn
    · cases hn
    · split at hn
      · rename_i o' ho
        cases hn
        have := plS_len f _ _ ho
        simp at this; omega
      · split at hn <;> cases hn
theorem stOk_app {st : List Int} {c : Int} {n : Int} (h : stOk st c) (hn : 0 ≤ n ∧ n < c) : stOk (st ++ [n]) c := fun i hi => by
  rw [List.length_append] at hi
  by_cases h1 : i < st.length
  · have := h i h1
    simpa [List.getD_eq_getElem?_getD, List.getElem?_append_left h1] using this
  · have : i = st.length := by simp at hi; omega
    subst this
    simpa [List.getD_eq_getElem?_getD] using hn
/-- What a first start leads to. -/
def plG (l : List Dv) (c f : Nat) (st : List Int) (n : Nat) : Option (Option (List Int)) := if blk l (st ++ [(n : Int)]) c (st.length + 1) = true then none else match plS l c f (st ++ [(n : Int)]) with
    | some o => some (some o)
    | none => if st.length = 0 then some none else none
theorem plS_succ (l : List Dv) (c f : Nat) (st : List Int) : plS l c (f + 1) st = tryL (plG l c f st) c 0 := rfl
theorem blk_succ (l : List Dv) (st : List Int) (c : Int) (k : Nat) : blk l st c (k + 1) = (blk l st c k || blB l st k (st.length - 1) c) := by
  simp [blk, List.range_succ]
theorem blk_le {l : List Dv} {st : List Int} {c : Int} {k m : Nat} (hkm : k < m) (h : blB l st k (st.length - 1) c = true) : blk l st c m = true := by
  rw [blk, List.any_eq_true]; exact ⟨k, List.mem_range.2 hkm, h⟩
theorem C49 {l : List Dv} {c : Nat} (hl : DvOk l) (hc : 0 < c ∧ c ≤ 40) : ∀ (f : Nat) (st : List Int), st.length + f = l.length → stOk st c → PFD Try.prog 49 [.c (trs l), .c (ints st), vi .i64 c] (plV (plS l c f st))
  | 0, st, hf, hs => by
    have hn := hl.n
    rw [plS, plV]
    refine pi1 fn49 ?_
    (repeat' first | (refine Owe.same ?_; first | refine Owe.o ?_ | refine Owe.mk ?_ ?_) | (refine Fork.same ?_; (first | refine fkD ?_ ?_ | refine fkN ?_ ?_ | refine fkM ?_ ?_) <;> intro h) | refine MvQ.stay ?_)
    · (refine rqK rfl ?_; (repeat' first | exact rfl | (refine qS ?_; constructor)))
    · exfalso; omega
  | f + 1, st, hf, hs => by
    have hn := hl.n
    have ih := C49 hl hc f
    rw [plS_succ]
    obtain ⟨q, hq⟩ : ∃ q, tryL (plG l c f st) c 0 = q := ⟨_, rfl⟩
    rw [hq]
    refine pi1 fn49 ?_
    (repeat' first | (refine Owe.same ?_; first | refine Owe.o ?_ | refine Owe.mk ?_ ?_) | (refine Fork.same ?_; (first | refine fkD ?_ ?_ | refine fkN ?_ ?_ | refine fkM ?_ ?_) <;> intro h) | refine MvQ.stay ?_)
    · exfalso; omega
    refine Sat.lp0 (fun n : Nat => [(20, vi .i64 n), (19, vi .i64 c), (0, .c (trs l)), (1, .c (ints st)), (2, vi .i64 c), (7, vi .i64 st.length)]) (fun n => n ≤ c ∧ q = tryL (plG l c f st) (c - n) n) (fun n => c - n) 0 ⟨Nat.zero_le _, hq.symm⟩ (by ((first | refine qen ?_ | refine qvs ?_ | refine qeq ?_ | refine qst ?_ | refine qv ?_ | refine qc ?_ | refine qe ?_ | refine qcs ?_ | skip); (repeat' first | exact rfl | (refine qS ?_; constructor)))) ?_
    intro n hn'
    have he := hn'.2
    refine Fork.dec (fun hlt => ?_) (fun hlt => ?_)
    · have hlt : n < c := by omega
      rw [show c - n = (c - (n + 1)) + 1 by omega, tryL] at he
      have hln : (st ++ [(n : Int)]).length = st.length + 1 := by simp
      have hso : stOk (st ++ [(n : Int)]) c := stOk_app hs (by omega)
      (repeat' first | (refine Owe.same ?_; first | refine Owe.o ?_ | refine Owe.mk ?_ ?_) | (refine Fork.same ?_; (first | refine fkD ?_ ?_ | refine fkN ?_ ?_ | refine fkM ?_ ?_) <;> intro h) | ((first | refine OpsL.same ?_ | refine OpsDL.same ?_); first | refine pK C63 rfl rfl ?_) | refine MvQ.stay ?_)
      refine SatL.as 9 (.c (ints (st ++ [(n : Int)]))) (QQ.sound (.dapp ⟨_, rfl, rfl⟩)) ?_
      refine SatL.as 28 (.c (ints (st ++ [(n : Int)]))) (QQ.sound (.dapp ⟨_, rfl, rfl⟩)) ?_
      refine Sat.lp0 (fun k : Nat => [(30, vi .i64 k), (29, vi .i64 (st.length + 1 : Nat)), (28, .c (ints (st ++ [(n : Int)]))), (9, .c (ints (st ++ [(n : Int)]))), (20, vi .i64 n), (19, vi .i64 c), (0, .c (trs l)), (1, .c (ints st)), (2, vi .i64 c), (7, vi .i64 st.length)]) (fun k => k ≤ st.length + 1 ∧ blk l (st ++ [(n : Int)]) c k = false) (fun k => st.length + 1 - k) 0 ⟨Nat.zero_le _, rfl⟩ (by ((first | refine qen ?_ | refine qvs ?_ | refine qeq ?_ | refine qst ?_ | refine qv ?_ | refine qc ?_ | refine qe ?_ | refine qcs ?_ | skip); (repeat' first | exact rfl | (refine qS ?_; constructor)))) ?_
      intro k hk
      refine Fork.dec (fun hlk => ?_) (fun hlk => ?_)
      · have hlk : k < st.length + 1 := by omega
        have c121 : PFD Try.prog 64 _ _ := C64 (l := l) (st := st ++ [(n : Int)]) (i := k) (k := st.length) (c := c) ⟨hl, by omega, hso, by omega, by omega⟩
        have hbs := blk_succ l (st ++ [(n : Int)]) c k
        rw [show (st ++ [(n : Int)]).length - 1 = st.length by omega] at hbs
        (repeat' first | (refine Owe.same ?_; first | refine Owe.o ?_ | refine Owe.mk ?_ ?_) | (refine Fork.same ?_; (first | refine fkD ?_ ?_ | refine fkN ?_ ?_ | refine fkM ?_ ?_) <;> intro h) | ((first | refine OpsL.same ?_ | refine OpsDL.same ?_); first | refine pK c121 rfl rfl ?_) | refine MvQ.stay ?_)
        · have h : blB l (st ++ [(n : Int)]) k st.length c = true := h
          have hg : plG l c f st n = none := by
            rw [plG, if_pos]
            exact blk_le hlk (by rw [show (st ++ [(n : Int)]).length - 1 = st.length by omega]; exact h)
          rw [hg] at he
          exact again0 (n + 1) ⟨hlt, he⟩ (by omega) (by ((first | refine qen ?_ | refine qvs ?_ | refine qeq ?_ | refine qst ?_ | refine qv ?_ | refine qc ?_ | refine qe ?_ | refine qcs ?_ | skip); (repeat' first | exact rfl | (refine qS ?_; constructor))))
        · have h : blB l (st ++ [(n : Int)]) k st.length c = false := h
          exact again0 (k + 1) ⟨hlk, by rw [hbs, hk.2, h]; rfl⟩ (by omega) (by ((first | refine qen ?_ | refine qvs ?_ | refine qeq ?_ | refine qst ?_ | refine qv ?_ | refine qc ?_ | refine qe ?_ | refine qcs ?_ | skip); (repeat' first | exact rfl | (refine qS ?_; constructor))))
      · have : k = st.length + 1 := by omega
        subst this
        have c100 := ih (st ++ [(n : Int)]) (by omega) hso
        rcases hp : plS l c f (st ++ [(n : Int)]) with _ | o
        · rw [hp] at c100
          have hg : plG l c f st n = if st.length = 0 then some none else none := by
            rw [plG, if_neg (by rw [hk.2]; decide), hp]
          (repeat' first | (refine Owe.same ?_; first | refine Owe.o ?_ | refine Owe.mk ?_ ?_) | (refine Fork.same ?_; (first | refine fkD ?_ ?_ | refine fkN ?_ ?_ | refine fkM ?_ ?_) <;> intro h) | ((first | refine OpsL.same ?_ | refine OpsDL.same ?_); first | refine pK c100 rfl rfl ?_) | refine MvQ.stay ?_)
          · have h : st.length = 0 := by omega
            rw [hg, if_pos h] at he
            have he : q = none := he
            subst he
            rw [plV]
            (refine rqK rfl ?_; (repeat' first | exact rfl | (refine qS ?_; constructor)))
          · rw [hg, if_neg (by omega)] at he
            exact again0 (n + 1) ⟨hlt, he⟩ (by omega) (by ((first | refine qen ?_ | refine qvs ?_ | refine qeq ?_ | refine qst ?_ | refine qv ?_ | refine qc ?_ | refine qe ?_ | refine qcs ?_ | skip); (repeat' first | exact rfl | (refine qS ?_; constructor))))
        · rw [hp] at c100
          have hlo := plS_len _ _ _ hp
          have hg : plG l c f st n = some (some o) := by
            rw [plG, if_neg (by rw [hk.2]; decide), hp]
          rw [hg] at he
          have he : q = some o := he
          subst he
          rw [plV] at c100 ⊢
          (repeat' first | (refine Owe.same ?_; first | refine Owe.o ?_ | refine Owe.mk ?_ ?_) | (refine Fork.same ?_; (first | refine fkD ?_ ?_ | refine fkN ?_ ?_ | refine fkM ?_ ?_) <;> intro h) | ((first | refine OpsL.same ?_ | refine OpsDL.same ?_); first | refine pK c100 rfl rfl ?_) | refine MvQ.stay ?_)
          (refine rqK rfl ?_; (repeat' first | exact rfl | (refine qS ?_; constructor)))
    · (repeat' first | (refine Owe.same ?_; first | refine Owe.o ?_ | refine Owe.mk ?_ ?_) | (refine Fork.same ?_; (first | refine fkD ?_ ?_ | refine fkN ?_ ?_ | refine fkM ?_ ?_) <;> intro h) | refine MvQ.stay ?_)
      have : n = c := by omega
      subst this
      rw [Nat.sub_self, tryL] at he
      subst he
      rw [plV]
      (refine rqK rfl ?_; (repeat' first | exact rfl | (refine qS ?_; constructor)))
end Go.Pw

set_option linter.unusedSimpArgs false
set_option linter.unusedVariables false
namespace Go.Pw
set_option maxRecDepth 2000
open Go Go.Proofs A1 A2 A3 A4
abbrev Tn := Int × List Int
abbrev tv (t : Tn) : V := .agg [int t.1, ints t.2]
theorem cyE_ok {n : Int} : cyE n = 0 ↔ 1 ≤ n ∧ n ≤ 40 := by rw [cyE, unl0 (by decide)]
theorem fst2 {a b : Int} : fstE [a, b] = 0 ↔ a = 0 ∧ b = 0 := by rw [fst0, fst0]; simp only [fst_nil, and_true]
/-- The first turns of a cycle. -/
def ftR (l : List Dv) (c : Int) : Tn × Int := if fstE [(dvsE l).2, cyE c] = 0 then match plS l c.toNat l.length [] with
    | none => ((0, []), 12)
    | some o => ((c, o), 0)
  else ((0, []), fstE [(dvsE l).2, cyE c])
theorem C30 {l : List Dv} {c : Int} : l.length ≤ 1000000 → PFD Try.prog 30 [.c (trs l), vi .i64 c] (.tup [tv (ftR l c).1, vi .i64 (ftR l c).2]) := fun hl => by
  have c95 := C44 hl
  by_cases h0 : fstE [(dvsE l).2, cyE c] = 0
  · obtain ⟨h1, h2⟩ := fst2.1 h0
    have hO := dvsE_ok.1 h1
    have hc := cyE_ok.1 h2
    have e : ((c.toNat : Nat) : Int) = c := by omega
    have c100 := C49 (c := c.toNat) hO (by omega) l.length [] (by simp) (fun i hi => by cases hi)
    rw [e] at c100
    rcases hp : plS l c.toNat l.length [] with _ | o
    · rw [hp, plV] at c100
      have hr : ftR l c = ((0, []), 12) := by rw [ftR, if_pos h0, hp]
      rw [hr]
      refine pi2 fn30 ?_
      (repeat' first | (refine Owe.same ?_; first | refine Owe.o ?_ | refine Owe.mk ?_ ?_) | (refine Fork.same ?_; (first | refine fkD ?_ ?_ | refine fkN ?_ ?_ | refine fkM ?_ ?_) <;> intro h) | ((first | refine OpsL.same ?_ | refine OpsDL.same ?_); first | refine pK c95 rfl rfl ?_ | refine pK C48 rfl rfl ?_ | refine pK C40 rfl rfl ?_ | refine pK c100 rfl rfl ?_) | refine MvQ.stay ?_)
      · exact absurd h0 h
      · (refine rqK rfl ?_; (repeat' first | exact rfl | (refine qS ?_; constructor)))
    · have hlo := plS_len _ _ _ hp
      have hn := hO.n
      rw [hp, plV] at c100
      have hr : ftR l c = ((c, o), 0) := by rw [ftR, if_pos h0, hp]
      rw [hr]
      refine pi2 fn30 ?_
      (repeat' first | (refine Owe.same ?_; first | refine Owe.o ?_ | refine Owe.mk ?_ ?_) | (refine Fork.same ?_; (first | refine fkD ?_ ?_ | refine fkN ?_ ?_ | refine fkM ?_ ?_) <;> intro h) | ((first | refine OpsL.same ?_ | refine OpsDL.same ?_); first | refine pK c95 rfl rfl ?_ | refine pK C48 rfl rfl ?_ | refine pK C40 rfl rfl ?_ | refine pK c100 rfl rfl ?_) | refine MvQ.stay ?_)
      · exact absurd h0 h
      · (refine rqK rfl ?_; (repeat' first | exact rfl | (refine qS ?_; constructor)))
  · have hr : ftR l c = ((0, []), fstE [(dvsE l).2, cyE c]) := by rw [ftR, if_neg h0]
    rw [hr]
    refine pi2 fn30 ?_
    (repeat' first | (refine Owe.same ?_; first | refine Owe.o ?_ | refine Owe.mk ?_ ?_) | (refine Fork.same ?_; (first | refine fkD ?_ ?_ | refine fkN ?_ ?_ | refine fkM ?_ ?_) <;> intro h) | ((first | refine OpsL.same ?_ | refine OpsDL.same ?_); first | refine pK c95 rfl rfl ?_ | refine pK C48 rfl rfl ?_ | refine pK C40 rfl rfl ?_) | refine MvQ.stay ?_)
    · (refine rqK rfl ?_; (repeat' first | exact rfl | (refine qS ?_; constructor)))
    · exact absurd h h0
def findT (l : List Dv) : Nat → Int → Tn × Int
  | 0, _ => ((0, []), 12)
  | r + 1, c => if (ftR l c).2 = 0 then ((ftR l c).1, 0) else findT l r (c + 1)
/-- The shortest turns. -/
def shR (l : List Dv) : Tn × Int := if (dvsE l).2 = 0 then findT l (41 + (bdK l).p).toNat (-(bdK l).p) else ((0, []), (dvsE l).2)
theorem C11 {l : List Dv} : l.length ≤ 1000000 → PFD Try.prog 11 [.c (trs l)] (.tup [tv (shR l).1, vi .i64 (shR l).2]) := fun hl => by
  have c73 := C29 hl
  by_cases h0 : (dvsE l).2 = 0
  · have hO := dvsE_ok.1 h0
    have hp := bestK_lo (c := bdC l) (n := l.length) (lo := -100) (by decide) (fun b => bdC_bd hO b) (2 ^ l.length)
    have hr : shR l = findT l (41 + (bdK l).p).toNat (-(bdK l).p) := by rw [shR, if_pos h0]
    rw [if_pos h0, if_pos h0, h0] at c73
    generalize (bdK l).p = p at c73 hp hr
    rw [hr]
    generalize hq : findT l (41 + p).toNat (-p) = q
    refine pi2 fn11 ?_
    (repeat' first | (refine Owe.same ?_; first | refine Owe.o ?_ | refine Owe.mk ?_ ?_) | (refine Fork.same ?_; (first | refine fkD ?_ ?_ | refine fkN ?_ ?_ | refine fkM ?_ ?_) <;> intro h) | ((first | refine OpsL.same ?_ | refine OpsDL.same ?_); first | refine pK c73 rfl rfl ?_) | refine MvQ.stay ?_)
    · exact absurd rfl h
    obtain ⟨b, hb⟩ : ∃ b : Nat, -p = b := ⟨(-p).toNat, by omega⟩
    have hb2 : b ≤ 100 := by omega
    have hq2 : findT l (41 - b) b = q := by rw [← hq, hb]; congr 1; omega
    refine Sat.lp (fun k : Nat => ⟨[(7, vi .i64 k), (2, .c (.bp 0 0)), (0, .c (trs l))], [(0, .box [int 0, .d (.v (.slice none 0 0))])], 1⟩) (fun k => k ≤ 101 ∧ b ≤ k ∧ q = findT l (41 - k) k) (fun k => 101 - k) b [0] ⟨by omega, by omega, hq2.symm⟩ ?_ ?_
    · (refine qis ?_ ?_ <;> (repeat' first | exact rfl | (refine qS ?_; constructor)))
      exact hb
    · intro k hk
      refine Fork.dec (fun hlt => ?_) (fun hlt => ?_)
      · have hlt : k < 41 := by omega
        have he := hk.2.2
        rw [show 41 - k = (41 - (k + 1)) + 1 by omega, findT] at he
        have c74 := C30 (l := l) (c := k) hl
        (repeat' first | (refine Owe.same ?_; first | refine Owe.o ?_ | refine Owe.mk ?_ ?_) | (refine Fork.same ?_; (first | refine fkD ?_ ?_ | refine fkN ?_ ?_ | refine fkM ?_ ?_) <;> intro h) | ((first | refine OpsL.same ?_ | refine OpsDL.same ?_); first | refine pK c74 rfl rfl ?_) | refine MvQ.stay ?_)
        · have h : (ftR l k).2 = 0 := h
          rw [if_pos h] at he
          subst he
          (refine rqK rfl ?_; (repeat' first | exact rfl | (refine qS ?_; constructor)))
        · have h : ¬ (ftR l k).2 = 0 := h
          rw [if_neg h] at he
          refine again (k + 1) [0] ⟨by omega, by omega, he⟩ (by omega) ?_
          (refine qis ?_ ?_ <;> (repeat' first | exact rfl | (refine qS ?_; constructor)))
      · have he := hk.2.2
        rw [show 41 - k = 0 by omega, findT] at he
        subst he
        (repeat' first | (refine Owe.same ?_; first | refine Owe.o ?_ | refine Owe.mk ?_ ?_) | (refine Fork.same ?_; (first | refine fkD ?_ ?_ | refine fkN ?_ ?_ | refine fkM ?_ ?_) <;> intro h) | refine MvQ.stay ?_)
        (refine rqK rfl ?_; (repeat' first | exact rfl | (refine qS ?_; constructor)))
  · have hr : shR l = ((0, []), (dvsE l).2) := by rw [shR, if_neg h0]
    rw [hr]
    rw [if_neg h0, if_neg h0] at c73
    refine pi2 fn11 ?_
    (repeat' first | (refine Owe.same ?_; first | refine Owe.o ?_ | refine Owe.mk ?_ ?_) | (refine Fork.same ?_; (first | refine fkD ?_ ?_ | refine fkN ?_ ?_ | refine fkM ?_ ?_) <;> intro h) | ((first | refine OpsL.same ?_ | refine OpsDL.same ?_); first | refine pK c73 rfl rfl ?_) | refine MvQ.stay ?_)
    · (refine rqK rfl ?_; (repeat' first | exact rfl | (refine qS ?_; constructor)))
    · exact absurd h h0
end Go.Pw

set_option linter.unusedSimpArgs false
set_option linter.unusedVariables false
namespace Go.Pw
set_option maxRecDepth 2000
open Go Go.Proofs A1 A2 A3 A4
abbrev lyOk (x : Dv) : Prop := (1 ≤ x.1 ∧ x.1 ≤ 10000) ∧ (1 ≤ x.2.1 ∧ x.2.1 ≤ 100) ∧ 1 ≤ x.2.2 ∧ x.2.2 ≤ 100
/-- The error of a layer. -/
def lyE (x : Dv) : Int := fstE [unl (lyOk x) 2, unl (x.2.1 ≤ x.2.2) 9]
theorem lyE_of {x : Dv} {p : Bool} (_h : ¬ fstE [unb p 2, unb (decide (x.2.1 ≤ x.2.2)) 9] = 0) (hp : p = decide (lyOk x)) : lyE x = fstE [unb p 2, unb (decide (x.2.1 ≤ x.2.2)) 9] := by subst hp; rfl
theorem lyE_of0 {x : Dv} {p : Bool} (h : fstE [unb p 2, unb (decide (x.2.1 ≤ x.2.2)) 9] = 0) (hp : p = decide (lyOk x)) : lyE x = 0 := by subst hp; exact h
theorem C57 {n : Int} : PFD Try.prog 57 [vi .i64 n] (vbl (decide (1 ≤ n ∧ n ≤ 100))) := by
  refine pi1 fn57 ?_
  (repeat' first | (refine Owe.same ?_; first | refine Owe.o ?_ | refine Owe.mk ?_ ?_) | (refine Fork.same ?_; (first | refine fkD ?_ ?_ | refine fkN ?_ ?_ | refine fkM ?_ ?_) <;> intro h) | ((first | refine OpsL.same ?_ | refine OpsDL.same ?_); first | refine pK C42 rfl rfl ?_) | refine MvQ.stay ?_)
  (refine rqK rfl ?_; (repeat' first | exact rfl | (refine qS ?_; constructor)))
/-- The error of layers, with an index. -/
def lysE (l : List Dv) : Int × Int := if cntE l.length 6 = 0 then eachE lyE 0 l else (0, cntE l.length 6)
theorem C39 {l : List Dv} : l.length ≤ 1000000 → PFD Try.prog 39 [.c (trs l)] (.tup [vi .i64 (lysE l).1, vi .i64 (lysE l).2]) := fun hl => by
  refine pi2 fn39 ?_
  (repeat' first | (refine Owe.same ?_; first | refine Owe.o ?_ | refine Owe.mk ?_ ?_) | (refine Fork.same ?_; (first | refine fkD ?_ ?_ | refine fkN ?_ ?_ | refine fkM ?_ ?_) <;> intro h) | ((first | refine OpsL.same ?_ | refine OpsDL.same ?_); first | refine pK C56 rfl rfl ?_) | refine MvQ.stay ?_)
  · have h : ¬ cntE l.length 6 = 0 := h
    (refine rqK rfl ?_; (repeat' first | exact rfl | (refine qS ?_; constructor))) <;> rw [lysE, if_neg h]
  · have h : cntE l.length 6 = 0 := h
    have hr : lysE l = eachE lyE 0 l := by rw [lysE, if_pos h]
    rw [hr]
    refine Ops.cs rfl rfl (CallS.of fn58 rfl ?_)
    (repeat' first | (refine Owe.same ?_; first | refine Owe.o ?_ | refine Owe.mk ?_ ?_) | (refine Fork.same ?_; (first | refine fkD ?_ ?_ | refine fkN ?_ ?_ | refine fkM ?_ ?_) <;> intro h) | refine MvQ.stay ?_)
    refine Sat.lp (fun k : Nat => ⟨[(11, vi .i64 k), (10, vi .i64 l.length), (9, .c (trs l)), (1, .c (.fn 59 [0]))], [(0, .box [.fn 57 []])], 1⟩) (fun k => k ≤ l.length ∧ eachE lyE 0 l = eachE lyE k (l.drop k)) (fun k => l.length - k) 0 [] ⟨Nat.zero_le _, rfl⟩ ?_ ?_
    · (refine qis ?_ ?_ <;> (repeat' first | exact rfl | (refine qS ?_; constructor)))
    · intro k hk
      refine Fork.dec (fun hlt => ?_) (fun hlt => ?_)
      · have hlt : k < l.length := by omega
        (repeat' first | (refine Owe.same ?_; first | refine Owe.o ?_ | refine Owe.mk ?_ ?_) | (refine Fork.same ?_; (first | refine fkD ?_ ?_ | refine fkN ?_ ?_ | refine fkM ?_ ?_) <;> intro h) | refine MvQ.stay ?_)
        refine Ops.cs rfl rfl (CallS.of fn59 rfl ?_)
        (repeat' first | (refine Owe.same ?_; first | refine Owe.o ?_ | refine Owe.mk ?_ ?_) | (refine Fork.same ?_; (first | refine fkD ?_ ?_ | refine fkN ?_ ?_ | refine fkM ?_ ?_) <;> intro h) | ((first | refine OpsL.same ?_ | refine OpsDL.same ?_); first | refine pK C42 rfl rfl ?_ | refine pK C57 rfl rfl ?_ | refine pK C41 rfl rfl ?_ | refine pK C40 rfl rfl ?_) | refine MvQ.stay ?_)
        all_goals have e := eachE_drop lyE (0, 0, 0) l k hlt
        all_goals first
          | have e1 := lyE_of0 (x := l.getD (k : Int).toNat (0, 0, 0)) h (by rw [Bool.eq_iff_iff]; (try simp only [decide_eq_true_eq, Bool.false_eq_true, false_iff]); omega)
            have e1 : lyE (l.getD k (0, 0, 0)) = 0 := e1
            rw [if_pos e1, ← hk.2] at e
            refine again (k + 1) [] ⟨by omega, e⟩ (by omega) ?_
            (refine qis ?_ ?_ <;> (repeat' first | exact rfl | (refine qS ?_; constructor)))
          | have e1 := lyE_of (x := l.getD (k : Int).toNat (0, 0, 0)) h (by rw [Bool.eq_iff_iff]; (try simp only [decide_eq_true_eq, Bool.false_eq_true, false_iff]); omega)
            rw [← e1] at h
            have h : ¬ lyE (l.getD k (0, 0, 0)) = 0 := h
            rw [if_neg h, ← hk.2] at e
            (refine rqK rfl ?_; (repeat' first | exact rfl | (refine qS ?_; constructor)))
            · rw [e]
            · rw [e]; exact e1.symm
      · (repeat' first | (refine Owe.same ?_; first | refine Owe.o ?_ | refine Owe.mk ?_ ?_) | (refine Fork.same ?_; (first | refine fkD ?_ ?_ | refine fkN ?_ ?_ | refine fkM ?_ ?_) <;> intro h) | refine MvQ.stay ?_)
        have e : eachE lyE 0 l = (0, 0) := by rw [hk.2, List.drop_of_length_le (by omega)]; rfl
        (refine rqK rfl ?_; (repeat' first | exact rfl | (refine qS ?_; constructor))) <;> rw [e]
theorem C26 {x : Dv} : PFD Try.prog 26 [tr x] (vi .i64 x.2.1) := by
  refine pi1 fn26 ?_
  (repeat' first | (refine Owe.same ?_; first | refine Owe.o ?_ | refine Owe.mk ?_ ?_) | (refine Fork.same ?_; (first | refine fkD ?_ ?_ | refine fkN ?_ ?_ | refine fkM ?_ ?_) <;> intro h) | refine MvQ.stay ?_)
  (refine rqK rfl ?_; (repeat' first | exact rfl | (refine qS ?_; constructor)))
theorem C24 {x : Dv} : PFD Try.prog 24 [tr x] (vi .i64 x.2.2) := by
  refine pi1 fn24 ?_
  (repeat' first | (refine Owe.same ?_; first | refine Owe.o ?_ | refine Owe.mk ?_ ?_) | (refine Fork.same ?_; (first | refine fkD ?_ ?_ | refine fkN ?_ ?_ | refine fkM ?_ ?_) <;> intro h) | refine MvQ.stay ?_)
  (refine rqK rfl ?_; (repeat' first | exact rfl | (refine qS ?_; constructor)))
/-- The error of layers, and of a number with a limit. -/
def lsE (l : List Dv) (n m : Int) : Int := fstE [(lysE l).2, unl (0 ≤ n ∧ n ≤ m) 2]
theorem C22 {l : List Dv} {n m : Int} : l.length ≤ 1000000 → PFD Try.prog 22 [.c (trs l), vi .i64 n, vi .i64 m] (vi .i64 (lsE l n m)) := fun hl => by
  refine pi1 fn22 ?_
  (repeat' first | (refine Owe.same ?_; first | refine Owe.o ?_ | refine Owe.mk ?_ ?_) | (refine Fork.same ?_; (first | refine fkD ?_ ?_ | refine fkN ?_ ?_ | refine fkM ?_ ?_) <;> intro h) | ((first | refine OpsL.same ?_ | refine OpsDL.same ?_); first | refine pK (C39 hl) rfl rfl ?_ | refine pK C42 rfl rfl ?_ | refine pK C41 rfl rfl ?_ | refine pK C40 rfl rfl ?_) | refine MvQ.stay ?_)
  (refine rqK rfl ?_; (repeat' first | exact rfl | (refine qS ?_; constructor)))
theorem C60 {a b : Nat} : (a ≤ 4000000000000000000 ∧ b ≤ 4000000000000000000) → PFD Try.prog 60 [vi .i64 a, vi .i64 b] (vi .i64 (Nat.gcd a b)) := fun ⟨ha, hb⟩ => by
  refine pi1 fn60 ?_
  (repeat' first | (refine Owe.same ?_; first | refine Owe.o ?_ | refine Owe.mk ?_ ?_) | (refine Fork.same ?_; (first | refine fkD ?_ ?_ | refine fkN ?_ ?_ | refine fkM ?_ ?_) <;> intro h) | refine MvQ.stay ?_)
  refine Sat.lp0 (fun p : Nat × Nat => [(0, vi .i64 p.1), (1, vi .i64 p.2)]) (fun p => (p.1 ≤ 4000000000000000000 ∧ p.2 ≤ 4000000000000000000) ∧ Nat.gcd p.1 p.2 = Nat.gcd a b) (fun p => p.2) (a, b) ⟨⟨ha, hb⟩, rfl⟩ (by ((first | refine qen ?_ | refine qvs ?_ | refine qeq ?_ | refine qst ?_ | refine qv ?_ | refine qc ?_ | refine qe ?_ | refine qcs ?_ | skip); (repeat' first | exact rfl | (refine qS ?_; constructor)))) ?_
  intro p hp
  obtain ⟨p1, p2⟩ := p
  simp only at hp ⊢
  (repeat' first | (refine Owe.same ?_; first | refine Owe.o ?_ | refine Owe.mk ?_ ?_) | (refine Fork.same ?_; (first | refine fkD ?_ ?_ | refine fkN ?_ ?_ | refine fkM ?_ ?_) <;> intro h) | refine MvQ.stay ?_)
  · have hm : p1 % p2 < p2 := Nat.mod_lt _ (by omega)
    refine again0 (p2, p1 % p2) ⟨⟨hp.1.2, by omega⟩, ?_⟩ hm (by ((first | refine qen ?_ | refine qvs ?_ | refine qeq ?_ | refine qst ?_ | refine qv ?_ | refine qc ?_ | refine qe ?_ | refine qcs ?_ | skip); (repeat' first | exact rfl | (refine qS ?_; constructor))))
    rw [← hp.2, Nat.gcd_comm p1 p2, Nat.gcd_rec p2 p1, Nat.gcd_comm]
  · have h0 : p2 = 0 := by omega
    subst h0
    rw [← hp.2, Nat.gcd_zero_right]
    (refine rqK rfl ?_; (repeat' first | exact rfl | (refine qS ?_; constructor)))
abbrev Qt := Nat × Nat
abbrev qtv (q : Qt) : V := .agg [int (q.1 : Int), int (q.2 : Int)]
def plusQ (q o : Qt) : Qt :=
  ((q.1 * (o.2 / Nat.gcd q.2 o.2) + o.1 * (q.2 / Nat.gcd q.2 o.2)) / Nat.gcd (q.1 * (o.2 / Nat.gcd q.2 o.2) + o.1 * (q.2 / Nat.gcd q.2 o.2)) (q.2 / Nat.gcd q.2 o.2 * o.2),
   (q.2 / Nat.gcd q.2 o.2 * o.2) / Nat.gcd (q.1 * (o.2 / Nat.gcd q.2 o.2) + o.1 * (q.2 / Nat.gcd q.2 o.2)) (q.2 / Nat.gcd q.2 o.2 * o.2))
theorem C25 {q : Qt} : (0 < q.2 ∧ q.1 ≤ 4000000000000000000) → PFD Try.prog 25 [qtv q] (vi .i64 (q.1 / q.2 : Nat)) := fun hq => by
  refine pi1 fn25 ?_
  have e : (q.1 : Int).tdiv q.2 = ((q.1 / q.2 : Nat) : Int) := rfl
  have b : q.1 / q.2 ≤ q.1 := Nat.div_le_self _ _
  generalize q.1 / q.2 = d at *
  have ho : (q.2 : Int) ≠ 0 ∧ R64 ((q.1 : Int).tdiv q.2) := by rw [e]; exact ⟨by omega, ob⟩
  refine Owe.mk ho ?_
  (refine rqK rfl ?_; (repeat' first | exact rfl | (refine qS ?_; constructor)))
  exact e
theorem C27 {q : Qt} : (0 < q.2 ∧ q.1 ≤ 4000000000000000000 ∧ q.2 ≤ 4000000000000000000) → PFD Try.prog 27 [qtv q] (vi .i64 ((q.1 + q.2 - 1) / q.2 : Nat)) := fun hq => by
  refine pi1 fn27 ?_
  have e0 : ((q.1 : Int) + q.2 - 1) = ((q.1 + q.2 - 1 : Nat) : Int) := by omega
  have e : ((q.1 : Int) + q.2 - 1).tdiv q.2 = (((q.1 + q.2 - 1) / q.2 : Nat) : Int) := by rw [e0]; rfl
  have b : (q.1 + q.2 - 1) / q.2 ≤ q.1 + q.2 - 1 := Nat.div_le_self _ _
  generalize (q.1 + q.2 - 1) / q.2 = d at *
  have ho : (q.2 : Int) ≠ 0 ∧ R64 (((q.1 : Int) + q.2 - 1).tdiv q.2) := by rw [e]; exact ⟨by omega, ob⟩
  (repeat' first | (refine Owe.same ?_; first | refine Owe.o ?_ | refine Owe.mk ?_ ?_) | (refine Fork.same ?_; (first | refine fkD ?_ ?_ | refine fkN ?_ ?_ | refine fkM ?_ ?_) <;> intro h) | refine MvQ.stay ?_)
  (refine rqK rfl ?_; (repeat' first | exact rfl | (refine qS ?_; constructor)))
  exact e
theorem C43 {q o : Qt} : ((0 < q.2 ∧ 0 < o.2) ∧ (q.1 * o.2 + o.1 * q.2 ≤ 4000000000000000000 ∧ q.2 * o.2 ≤ 4000000000000000000) ∧ (q.1 ≤ 4000000000000000000 ∧ o.1 ≤ 4000000000000000000) ∧ q.2 ≤ 4000000000000000000 ∧ o.2 ≤ 4000000000000000000) → PFD Try.prog 43 [qtv q, qtv o] (qtv (plusQ q o)) := fun ⟨hp, hb, hd⟩ => by
  refine pi1 fn43 ?_
  have g0 : 0 < Nat.gcd q.2 o.2 := Nat.gcd_pos_of_pos_left _ hp.1
  have d1 : o.2 / Nat.gcd q.2 o.2 ≤ o.2 := Nat.div_le_self _ _
  have d2 : q.2 / Nat.gcd q.2 o.2 ≤ q.2 := Nat.div_le_self _ _
  have d3 : 0 < q.2 / Nat.gcd q.2 o.2 := Nat.div_pos (Nat.le_of_dvd hp.1 (Nat.gcd_dvd_left _ _)) g0
  have m1 : q.1 * (o.2 / Nat.gcd q.2 o.2) ≤ q.1 * o.2 := Nat.mul_le_mul_left _ d1
  have m2 : o.1 * (q.2 / Nat.gcd q.2 o.2) ≤ o.1 * q.2 := Nat.mul_le_mul_left _ d2
  have m3 : q.2 / Nat.gcd q.2 o.2 * o.2 ≤ q.2 * o.2 := Nat.mul_le_mul_right _ d2
  have m4 : 0 < q.2 / Nat.gcd q.2 o.2 * o.2 := Nat.mul_pos d3 hp.2
  have e1 : (o.2 : Int).tdiv (Nat.gcd q.2 o.2 : Nat) = ((o.2 / Nat.gcd q.2 o.2 : Nat) : Int) := rfl
  have e2 : (q.2 : Int).tdiv (Nat.gcd q.2 o.2 : Nat) = ((q.2 / Nat.gcd q.2 o.2 : Nat) : Int) := rfl
  rw [plusQ]
  have c1 := C60 (a := q.2) (b := o.2) ⟨by omega, by omega⟩
  generalize Nat.gcd q.2 o.2 = g at *
  generalize o.2 / g = x at *
  generalize q.2 / g = y at *
  have M1 : 0 ≤ (q.1 : Int) * (o.2 : Int).tdiv g ∧ (q.1 : Int) * (o.2 : Int).tdiv g = ((q.1 * x : Nat) : Int) := by rw [e1]; exact ⟨Int.mul_nonneg (by omega) (by omega), by rw [Int.natCast_mul]⟩
  have M2 : 0 ≤ (o.1 : Int) * (q.2 : Int).tdiv g ∧ (o.1 : Int) * (q.2 : Int).tdiv g = ((o.1 * y : Nat) : Int) := by rw [e2]; exact ⟨Int.mul_nonneg (by omega) (by omega), by rw [Int.natCast_mul]⟩
  have M3 : 0 ≤ (q.2 : Int).tdiv g * (o.2 : Int) ∧ (q.2 : Int).tdiv g * (o.2 : Int) = ((y * o.2 : Nat) : Int) := by rw [e2]; exact ⟨Int.mul_nonneg (by omega) (by omega), by rw [Int.natCast_mul]⟩
  have c2 := C60 (a := q.1 * x + o.1 * y) (b := y * o.2) ⟨by omega, by omega⟩
  have G0 : 0 < Nat.gcd (q.1 * x + o.1 * y) (y * o.2) := Nat.gcd_pos_of_pos_right _ m4
  have eA : (q.1 : Int) * (o.2 : Int).tdiv g + (o.1 : Int) * (q.2 : Int).tdiv g = ((q.1 * x + o.1 * y : Nat) : Int) := by rw [M1.2, M2.2]; omega
  rw [← eA, ← M3.2] at c2
  have D1 : (q.1 * x + o.1 * y) / Nat.gcd (q.1 * x + o.1 * y) (y * o.2) ≤ q.1 * x + o.1 * y := Nat.div_le_self _ _
  have D2 : y * o.2 / Nat.gcd (q.1 * x + o.1 * y) (y * o.2) ≤ y * o.2 := Nat.div_le_self _ _
  have E1 : ((q.1 : Int) * (o.2 : Int).tdiv g + (o.1 : Int) * (q.2 : Int).tdiv g).tdiv (Nat.gcd (q.1 * x + o.1 * y) (y * o.2) : Nat) = (((q.1 * x + o.1 * y) / Nat.gcd (q.1 * x + o.1 * y) (y * o.2) : Nat) : Int) := by rw [eA]; rfl
  have E2 : ((q.2 : Int).tdiv g * (o.2 : Int)).tdiv (Nat.gcd (q.1 * x + o.1 * y) (y * o.2) : Nat) = ((y * o.2 / Nat.gcd (q.1 * x + o.1 * y) (y * o.2) : Nat) : Int) := by rw [M3.2]; rfl
  generalize Nat.gcd (q.1 * x + o.1 * y) (y * o.2) = G at *
  generalize (q.1 * x + o.1 * y) / G = a at *
  generalize y * o.2 / G = b at *
  (repeat' first | (refine Owe.same ?_; first | refine Owe.o ?_ | refine Owe.mk ?_ ?_) | (refine Fork.same ?_; (first | refine fkD ?_ ?_ | refine fkN ?_ ?_ | refine fkM ?_ ?_) <;> intro h) | refine MvQ.stay ?_)
  ((first | refine OpsL.same ?_ | refine OpsDL.same ?_); refine pK c1 rfl rfl ?_)
  (repeat' first | (refine Owe.same ?_; first | refine Owe.o ?_ | refine Owe.mk ?_ ?_) | (refine Fork.same ?_; (first | refine fkD ?_ ?_ | refine fkN ?_ ?_ | refine fkM ?_ ?_) <;> intro h) | refine MvQ.stay ?_)
  ((first | refine OpsL.same ?_ | refine OpsDL.same ?_); refine pK c2 rfl rfl ?_)
  (repeat' first | (refine Owe.same ?_; first | refine Owe.o ?_ | refine Owe.mk ?_ ?_) | (refine Fork.same ?_; (first | refine fkD ?_ ?_ | refine fkN ?_ ?_ | refine fkM ?_ ?_) <;> intro h) | refine MvQ.stay ?_)
  (refine rqK rfl ?_; (repeat' first | exact rfl | (refine qS ?_; constructor)))
  · exact E1
  · exact E2
end Go.Pw

set_option linter.unusedSimpArgs false
set_option linter.unusedVariables false
namespace Go.Pw
set_option maxRecDepth 2000
open Go Go.Proofs A1 A2 A3 A4
def lyQ (t v : Int) : Qt := (t.toNat, v.toNat)
/-- The depth after a time, with chosen speeds. -/
def deepS (sp : Dv → Int) (T : Nat) : List Dv → Qt → Nat → Qt
  | [], p, _ => p
  | x :: r, p, top => if r = [] ∨ T * (plusQ p (lyQ x.1 (sp x))).2 < (plusQ p (lyQ x.1 (sp x))).1 then (top * p.2 + (T * p.2 - p.1) * (sp x).toNat, p.2)
    else deepS sp T r (plusQ p (lyQ x.1 (sp x))) (top + x.1.toNat)
structure LyOk (l : List Dv) : Prop where
  n : 0 < l.length ∧ l.length ≤ 6
  ok : ∀ i, i < l.length → lyOk (l.getD i (0, 0, 0)) ∧ (l.getD i (0, 0, 0)).2.1 ≤ (l.getD i (0, 0, 0)).2.2
theorem deepS_drop {sp : Dv → Int} {T : Nat} {l : List Dv} {k : Nat} {p : Qt} {top : Nat} (hk : k < l.length) : deepS sp T (l.drop k) p top =
    (fun x : Dv => if k = l.length - 1 ∨ T * (plusQ p (lyQ x.1 (sp x))).2 < (plusQ p (lyQ x.1 (sp x))).1 then (top * p.2 + (T * p.2 - p.1) * (sp x).toNat, p.2)
    else deepS sp T (l.drop (k + 1)) (plusQ p (lyQ x.1 (sp x))) (top + x.1.toNat)) (l.getD k (0, 0, 0)) := by
  have e : l.drop k = l.getD k (0, 0, 0) :: l.drop (k + 1) := by
    rw [List.getD_eq_getElem?_getD, List.getElem?_eq_getElem hk]; exact List.drop_eq_getElem_cons hk
  rw [e]
  have e2 : (l.drop (k + 1) = []) = (k = l.length - 1) := by
    apply propext; rw [List.drop_eq_nil_iff]; omega
  simp only [deepS, e2]
theorem plusQ_pos {q o : Qt} (hq : 0 < q.2) (ho : 0 < o.2) : 0 < (plusQ q o).2 := by
  have g0 : 0 < Nat.gcd q.2 o.2 := Nat.gcd_pos_of_pos_left _ hq
  have h : 0 < q.2 / Nat.gcd q.2 o.2 * o.2 := Nat.mul_pos (Nat.div_pos (Nat.le_of_dvd hq (Nat.gcd_dvd_left _ _)) g0) ho
  exact Nat.div_pos (Nat.le_of_dvd h (Nat.gcd_dvd_right _ _)) (Nat.gcd_pos_of_pos_right _ h)
theorem plusQ_den {q o : Qt} : (plusQ q o).2 ≤ q.2 * o.2 := Nat.le_trans (Nat.div_le_self _ _) (Nat.mul_le_mul_right _ (Nat.div_le_self _ _))
theorem plusQ_num {q o : Qt} : (plusQ q o).1 ≤ q.1 * o.2 + o.1 * q.2 :=
  Nat.le_trans (Nat.div_le_self _ _) (Nat.add_le_add (Nat.mul_le_mul_left _ (Nat.div_le_self _ _)) (Nat.mul_le_mul_left _ (Nat.div_le_self _ _)))
theorem C28 {g : FuncId} {sp : Dv → Int} (hg : ∀ x : Dv, PFD Try.prog g [tr x] (vi .i64 (sp x))) {l : List Dv} {T : Nat} :
    (LyOk l ∧ (∀ i, i < l.length → 1 ≤ sp (l.getD i (0, 0, 0)) ∧ sp (l.getD i (0, 0, 0)) ≤ 100) ∧ T ≤ 100000) → PFD Try.prog 28 [.c (trs l), vi .i64 T, .c (.fn g [])] (qtv (deepS sp T l (0, 1) 0)) := fun ⟨hO, hs, hT⟩ => by
  have hn := hO.n
  obtain ⟨q, hq⟩ : ∃ q, q = deepS sp T l (0, 1) 0 := ⟨_, rfl⟩
  rw [← hq]
  refine pi1 fn28 ?_
  (repeat' first | (refine Owe.same ?_; first | refine Owe.o ?_ | refine Owe.mk ?_ ?_) | (refine Fork.same ?_; (first | refine fkD ?_ ?_ | refine fkN ?_ ?_ | refine fkM ?_ ?_) <;> intro h) | refine MvQ.stay ?_)
  refine Sat.lp (fun s : Nat × Qt × Nat => ⟨[(16, vi .i64 s.1), (15, vi .i64 l.length), (14, .c (trs l)), (0, .c (trs l)), (1, vi .i64 T), (2, .c (.fn g [])), (8, vi .i64 s.2.2), (6, .c (.bp 0 0)), (7, .c (.bp 1 0))], [(1, .box [int s.2.1.1, int s.2.1.2]), (0, .box [int 0, int 0])], 2⟩)
    (fun s => s.1 ≤ l.length ∧ q = deepS sp T (l.drop s.1) s.2.1 s.2.2 ∧ (0 < s.2.1.2 ∧ s.2.1.2 ≤ 100 ^ s.1) ∧ s.2.1.1 ≤ T * s.2.1.2 ∧ s.2.2 ≤ 10000 * s.1) (fun s => l.length - s.1) (0, (0, 1), 0) [0, 1] ⟨Nat.zero_le _, hq, ⟨by decide, by decide⟩, by simp, by simp⟩ ?_ ?_
  · (refine qis ?_ ?_ <;> (repeat' first | exact rfl | (refine qS ?_; constructor)))
  · intro ⟨k, p, top⟩ hk
    simp only at hk ⊢
    refine Fork.dec (fun hlt => ?_) (fun hlt => ?_)
    · have hlt : k < l.length := by omega
      have hx := (hO.ok k hlt).1
      have hv := hs k hlt
      have e := deepS_drop (sp := sp) (T := T) (p := p) (top := top) hlt
      obtain ⟨p1, p2⟩ := p
      simp only at hk e
      have b0 : p2 ≤ 10000000000 := Nat.le_trans hk.2.2.1.2 (Nat.le_trans (Nat.pow_le_pow_right (by decide) (show k ≤ 5 by omega)) (by decide))
      have b1 : T * p2 ≤ 100000 * 10000000000 := Nat.mul_le_mul hT b0
      have c86 : PFD Try.prog 43 [.agg [int (p1 : Int), int (p2 : Int)], .agg [int (l.getD k (0, 0, 0)).1, int (sp (l.getD k (0, 0, 0)))]] (qtv (plusQ (p1, p2) (lyQ (l.getD k (0, 0, 0)).1 (sp (l.getD k (0, 0, 0)))))) := by
        have h1 := hx.1
        generalize (l.getD k (0, 0, 0)).1 = a at *
        generalize sp (l.getD k (0, 0, 0)) = v at *
        obtain ⟨a, rfl⟩ : ∃ n : Nat, a = n := ⟨a.toNat, by omega⟩
        obtain ⟨v, rfl⟩ : ∃ n : Nat, v = n := ⟨v.toNat, by omega⟩
        have m1 : p1 * v ≤ 1000000000000000 * 100 := Nat.mul_le_mul (by omega) (by omega)
        have m2 : a * p2 ≤ 10000 * 10000000000 := Nat.mul_le_mul (by omega) b0
        have m3 : p2 * v ≤ 10000000000 * 100 := Nat.mul_le_mul b0 (by omega)
        exact C43 (q := (p1, p2)) (o := (a, v)) ⟨⟨hk.2.2.1.1, by simp only; omega⟩, ⟨by simp only; omega, by simp only; omega⟩, ⟨by simp only; omega, by simp only; omega⟩, by simp only; omega, by simp only; omega⟩
      have r1 := plusQ_pos (q := (p1, p2)) (o := lyQ (l.getD k (0, 0, 0)).1 (sp (l.getD k (0, 0, 0)))) hk.2.2.1.1 (by simp only [lyQ]; omega)
      have r2 := plusQ_den (q := (p1, p2)) (o := lyQ (l.getD k (0, 0, 0)).1 (sp (l.getD k (0, 0, 0))))
      have r3 : p2 * (lyQ (l.getD k (0, 0, 0)).1 (sp (l.getD k (0, 0, 0)))).2 ≤ p2 * 100 := Nat.mul_le_mul_left _ (by simp only [lyQ]; omega)
      have r4 : p2 * 100 ≤ 100 ^ (k + 1) := by rw [Nat.pow_succ]; exact Nat.mul_le_mul_right _ hk.2.2.1.2
      obtain ⟨⟨t1, t2⟩, ht⟩ : ∃ t, plusQ (p1, p2) (lyQ (l.getD k (0, 0, 0)).1 (sp (l.getD k (0, 0, 0)))) = t := ⟨_, rfl⟩
      rw [ht] at c86 r1 r2 e
      simp only at r1 r2 r3 e
      have b2 : T * t2 ≤ 100000 * 1000000000000 := Nat.mul_le_mul hT (by omega)
      have b3 : top * p2 ≤ 60000 * 10000000000 := Nat.mul_le_mul (by omega) b0
      have b4 : 0 ≤ ((T : Int) * p2 - p1) * sp (l.getD k (0, 0, 0)) ∧ ((T : Int) * p2 - p1) * sp (l.getD k (0, 0, 0)) ≤ 1000000000000000 * 100 := by
        have hd : 0 ≤ (T : Int) * p2 - p1 ∧ (T : Int) * p2 - p1 ≤ 1000000000000000 := by omega
        exact ⟨Int.mul_nonneg hd.1 (by omega), Int.mul_le_mul hd.2 hv.2 (by omega) (by omega)⟩
      have b5 : ((T : Int) * p2 - p1) * sp (l.getD k (0, 0, 0)) = (((T * p2 - p1) * (sp (l.getD k (0, 0, 0))).toNat : Nat) : Int) := by
        rw [Int.natCast_mul, Int.toNat_of_nonneg (by omega)]; congr 1; omega
      have b6 : (top : Int) * p2 + ((T : Int) * p2 - p1) * sp (l.getD k (0, 0, 0)) = ((top * p2 + (T * p2 - p1) * (sp (l.getD k (0, 0, 0))).toNat : Nat) : Int) := by rw [b5]; omega
      have h1 := hx.1
      (repeat' first | (refine Owe.same ?_; first | refine Owe.o ?_ | refine Owe.mk ?_ ?_) | (refine Fork.same ?_; (first | refine fkD ?_ ?_ | refine fkN ?_ ?_ | refine fkM ?_ ?_) <;> intro h) | ((first | refine OpsL.same ?_ | refine OpsDL.same ?_); first | refine pK (hg _) rfl rfl ?_ | refine pK c86 rfl rfl ?_) | refine MvQ.stay ?_)
      · rw [if_pos (.inl (by omega)), ← hk.2.1] at e
        subst e
        (refine rqK rfl ?_; (repeat' first | exact rfl | (refine qS ?_; constructor)))
        exact b6
      · have h : (T : Int) * t2 < t1 := h
        have h : T * t2 < t1 := by exact_mod_cast h
        rw [if_pos (.inr h), ← hk.2.1] at e
        subst e
        (refine rqK rfl ?_; (repeat' first | exact rfl | (refine qS ?_; constructor)))
        exact b6
      · rename_i hkl
        have h : ¬ (T : Int) * t2 < t1 := h
        have h : ¬ T * t2 < t1 := fun hh => h (by exact_mod_cast hh)
        rw [if_neg (by rintro (h2 | h2) <;> omega), ← hk.2.1] at e
        refine again (k + 1, (t1, t2), top + (l.getD k (0, 0, 0)).1.toNat) [0, 1] ⟨by omega, e, ⟨by simp only; omega, by simp only; omega⟩, by simp only; omega, by simp only; omega⟩ (by omega) ?_
        (refine qis ?_ ?_ <;> (repeat' first | exact rfl | (refine qS ?_; constructor)))
        show (top : Int) + (l.getD k (0, 0, 0)).1 = ((top + (l.getD k (0, 0, 0)).1.toNat : Nat) : Int)
        omega
    · (repeat' first | (refine Owe.same ?_; first | refine Owe.o ?_ | refine Owe.mk ?_ ?_) | (refine Fork.same ?_; (first | refine fkD ?_ ?_ | refine fkN ?_ ?_ | refine fkM ?_ ?_) <;> intro h) | refine MvQ.stay ?_)
      have e : q = p := by rw [hk.2.1, List.drop_of_length_le (by omega)]; rfl
      subst e
      (refine rqK rfl ?_; (repeat' first | exact rfl | (refine qS ?_; constructor)))
/-- The time to a depth, with chosen speeds. -/
def latePart (last : Prop) [Decidable last] (t d : Int) : Int := min (if last then d else t) d
def lateS (sp : Dv → Int) : List Dv → Int → Qt → Qt
  | [], _, q => q
  | x :: r, d, q => lateS sp r (d - latePart (r = []) x.1 d) (plusQ q (lyQ (latePart (r = []) x.1 d) (sp x)))
theorem lateS_drop {sp : Dv → Int} {l : List Dv} {k : Nat} {d : Int} {q : Qt} (hk : k < l.length) : lateS sp (l.drop k) d q =
    (fun x : Dv => lateS sp (l.drop (k + 1)) (d - latePart (k = l.length - 1) x.1 d) (plusQ q (lyQ (latePart (k = l.length - 1) x.1 d) (sp x)))) (l.getD k (0, 0, 0)) := by
  have e : l.drop k = l.getD k (0, 0, 0) :: l.drop (k + 1) := by
    rw [List.getD_eq_getElem?_getD, List.getElem?_eq_getElem hk]; exact List.drop_eq_getElem_cons hk
  rw [e]
  have e2 : (l.drop (k + 1) = []) = (k = l.length - 1) := by
    apply propext; rw [List.drop_eq_nil_iff]; omega
  simp only [lateS, latePart, e2]
theorem C23 {g : FuncId} {sp : Dv → Int} (hg : ∀ x : Dv, PFD Try.prog g [tr x] (vi .i64 (sp x))) {l : List Dv} {D : Int} :
    (LyOk l ∧ (∀ i, i < l.length → 1 ≤ sp (l.getD i (0, 0, 0)) ∧ sp (l.getD i (0, 0, 0)) ≤ 100) ∧ 0 ≤ D ∧ D ≤ 100000) → PFD Try.prog 23 [.c (trs l), vi .i64 D, .c (.fn g [])] (qtv (lateS sp l D (0, 1))) := fun ⟨hO, hs, hD⟩ => by
  have hn := hO.n
  obtain ⟨q, hq⟩ : ∃ q, q = lateS sp l D (0, 1) := ⟨_, rfl⟩
  rw [← hq]
  refine pi1 fn23 ?_
  (repeat' first | (refine Owe.same ?_; first | refine Owe.o ?_ | refine Owe.mk ?_ ?_) | (refine Fork.same ?_; (first | refine fkD ?_ ?_ | refine fkN ?_ ?_ | refine fkM ?_ ?_) <;> intro h) | refine MvQ.stay ?_)
  refine Sat.lp (fun s : Nat × Qt × Int => ⟨[(14, vi .i64 s.1), (13, vi .i64 l.length), (12, .c (trs l)), (0, .c (trs l)), (1, vi .i64 s.2.2), (2, .c (.fn g [])), (6, .c (.bp 0 0)), (7, .c (.bp 1 0))], [(1, .box [int s.2.1.1, int s.2.1.2]), (0, .box [int 0, int 0])], 2⟩)
    (fun s => s.1 ≤ l.length ∧ q = lateS sp (l.drop s.1) s.2.2 s.2.1 ∧ (0 < s.2.1.2 ∧ s.2.1.2 ≤ 100 ^ s.1) ∧ s.2.1.1 ≤ 100000 * 101 ^ s.1 ∧ 0 ≤ s.2.2 ∧ s.2.2 ≤ 100000) (fun s => l.length - s.1) (0, (0, 1), D) [0, 1] ⟨Nat.zero_le _, hq, ⟨by simp, by simp⟩, by simp, hD⟩ ?_ ?_
  · (refine qis ?_ ?_ <;> (repeat' first | exact rfl | (refine qS ?_; constructor)))
  · intro ⟨k, p, d⟩ hk
    simp only at hk ⊢
    refine Fork.dec (fun hlt => ?_) (fun hlt => ?_)
    · have hlt : k < l.length := by omega
      have hx := (hO.ok k hlt).1
      have hv := hs k hlt
      have e := lateS_drop (sp := sp) (d := d) (q := p) hlt
      obtain ⟨p1, p2⟩ := p
      simp only at hk e
      have b0 : p2 ≤ 10000000000 := Nat.le_trans hk.2.2.1.2 (Nat.le_trans (Nat.pow_le_pow_right (by decide) (show k ≤ 5 by omega)) (by decide))
      have b1 : p1 ≤ 100000 * 10510100501 := Nat.le_trans hk.2.2.2.1 (Nat.mul_le_mul_left _ (Nat.le_trans (Nat.pow_le_pow_right (by decide) (show k ≤ 5 by omega)) (by decide)))
      have b2 : 100 ^ k ≤ 101 ^ k := Nat.pow_le_pow_left (by decide) k
      have h1 := hx.1
      have c86 : ∀ {a : Int}, (0 ≤ a ∧ a ≤ 100000) → PFD Try.prog 43 [.agg [int (p1 : Int), int (p2 : Int)], .agg [int a, int (sp (l.getD k (0, 0, 0)))]] (qtv (plusQ (p1, p2) (lyQ a (sp (l.getD k (0, 0, 0)))))) := by
        intro a ha
        generalize sp (l.getD k (0, 0, 0)) = v at *
        obtain ⟨a, rfl⟩ : ∃ n : Nat, a = n := ⟨a.toNat, by omega⟩
        obtain ⟨v, rfl⟩ : ∃ n : Nat, v = n := ⟨v.toNat, by omega⟩
        have m1 : p1 * v ≤ 1051010050100000 * 100 := Nat.mul_le_mul (by omega) (by omega)
        have m2 : a * p2 ≤ 100000 * 10000000000 := Nat.mul_le_mul (by omega) b0
        have m3 : p2 * v ≤ 10000000000 * 100 := Nat.mul_le_mul b0 (by omega)
        exact C43 (q := (p1, p2)) (o := (a, v)) ⟨⟨hk.2.2.1.1, by simp only; omega⟩, ⟨by simp only; omega, by simp only; omega⟩, ⟨by simp only; omega, by simp only; omega⟩, by simp only; omega, by simp only; omega⟩
      have go : ∀ a : Int, 0 ≤ a → a ≤ d → 0 < (plusQ (p1, p2) (lyQ a (sp (l.getD k (0, 0, 0))))).2 ∧ (plusQ (p1, p2) (lyQ a (sp (l.getD k (0, 0, 0))))).2 ≤ 100 ^ (k + 1) ∧ (plusQ (p1, p2) (lyQ a (sp (l.getD k (0, 0, 0))))).1 ≤ 100000 * 101 ^ (k + 1) := by
        intro a ha0 ha
        have r1 := plusQ_pos (q := (p1, p2)) (o := lyQ a (sp (l.getD k (0, 0, 0)))) hk.2.2.1.1 (by simp only [lyQ]; omega)
        have r2 := plusQ_den (q := (p1, p2)) (o := lyQ a (sp (l.getD k (0, 0, 0))))
        have r3 : p2 * (lyQ a (sp (l.getD k (0, 0, 0)))).2 ≤ p2 * 100 := Nat.mul_le_mul_left _ (by simp only [lyQ]; omega)
        have r4 : p2 * 100 ≤ 100 ^ (k + 1) := by rw [Nat.pow_succ]; exact Nat.mul_le_mul_right _ hk.2.2.1.2
        have r5 := plusQ_num (q := (p1, p2)) (o := lyQ a (sp (l.getD k (0, 0, 0))))
        have r6 : p1 * (lyQ a (sp (l.getD k (0, 0, 0)))).2 ≤ p1 * 100 := Nat.mul_le_mul_left _ (by simp only [lyQ]; omega)
        have r7 : (lyQ a (sp (l.getD k (0, 0, 0)))).1 * p2 ≤ 100000 * p2 := Nat.mul_le_mul_right _ (by simp only [lyQ]; omega)
        refine ⟨r1, Nat.le_trans r2 (Nat.le_trans r3 r4), ?_⟩
        simp only at r5
        rw [Nat.pow_succ]
        omega
      (repeat' first | (refine Owe.same ?_; first | refine Owe.o ?_ | refine Owe.mk ?_ ?_) | (refine Fork.same ?_; (first | refine fkD ?_ ?_ | refine fkN ?_ ?_ | refine fkM ?_ ?_) <;> intro h) | ((first | refine OpsL.same ?_ | refine OpsDL.same ?_); first | refine pK (hg _) rfl rfl ?_ | refine pK c86 rfl rfl ?_) | refine MvQ.stay ?_)
      · have ep : latePart (k = l.length - 1) (l.getD k (0, 0, 0)).1 d = min d d := by rw [latePart, if_pos (by omega)]
        simp only [ep, ← hk.2.1] at e
        have g := go (min d d) (by omega) (by omega)
        refine again (k + 1, plusQ (p1, p2) (lyQ (min d d) (sp (l.getD k (0, 0, 0)))), d - min d d) [0, 1] ⟨by omega, e, ⟨g.1, g.2.1⟩, g.2.2, by simp only; omega, by simp only; omega⟩ (by omega) ?_
        (refine qis ?_ ?_ <;> (repeat' first | exact rfl | (refine qS ?_; constructor)))
      · have ep : latePart (k = l.length - 1) (l.getD k (0, 0, 0)).1 d = min (l.getD k (0, 0, 0)).1 d := by rw [latePart, if_neg (by omega)]
        simp only [ep, ← hk.2.1] at e
        have g := go (min (l.getD k (0, 0, 0)).1 d) (by omega) (by omega)
        refine again (k + 1, plusQ (p1, p2) (lyQ (min (l.getD k (0, 0, 0)).1 d) (sp (l.getD k (0, 0, 0)))), d - min (l.getD k (0, 0, 0)).1 d) [0, 1] ⟨by omega, e, ⟨g.1, g.2.1⟩, g.2.2, by simp only; omega, by simp only; omega⟩ (by omega) ?_
        (refine qis ?_ ?_ <;> (repeat' first | exact rfl | (refine qS ?_; constructor)))
    · (repeat' first | (refine Owe.same ?_; first | refine Owe.o ?_ | refine Owe.mk ?_ ?_) | (refine Fork.same ?_; (first | refine fkD ?_ ?_ | refine fkN ?_ ?_ | refine fkM ?_ ?_) <;> intro h) | refine MvQ.stay ?_)
      have e : q = p := by rw [hk.2.1, List.drop_of_length_le (by omega)]; rfl
      subst e
      (refine rqK rfl ?_; (repeat' first | exact rfl | (refine qS ?_; constructor)))
def lo (x : Dv) : Int := x.2.1
def hi (x : Dv) : Int := x.2.2
/-- The range of depths after a time, and that of times to a depth. -/
def dpS (l : List Dv) (T : Int) : Pr × Int := if lsE l T 100000 = 0 then ((((deepS lo T.toNat l (0, 1) 0).1 / (deepS lo T.toNat l (0, 1) 0).2 : Nat), (((deepS hi T.toNat l (0, 1) 0).1 + (deepS hi T.toNat l (0, 1) 0).2 - 1) / (deepS hi T.toNat l (0, 1) 0).2 : Nat)), 0) else ((0, 0), lsE l T 100000)
def tmS (l : List Dv) (D : Int) : Pr × Int := if lsE l D 100000 = 0 then ((((lateS hi l D (0, 1)).1 / (lateS hi l D (0, 1)).2 : Nat), (((lateS lo l D (0, 1)).1 + (lateS lo l D (0, 1)).2 - 1) / (lateS lo l D (0, 1)).2 : Nat)), 0) else ((0, 0), lsE l D 100000)
theorem lyE_ok {x : Dv} : lyE x = 0 ↔ lyOk x ∧ x.2.1 ≤ x.2.2 := by
  rw [lyE, fst2, unl0 (by decide), unl0 (by decide)]
theorem lysE_ok {l : List Dv} (h : (lysE l).2 = 0) : LyOk l := by
  rw [lysE] at h
  split at h
  · rename_i h0
    rw [cntE, fst2, unl0 (by decide), unl0 (by decide)] at h0
    refine ⟨by omega, fun i hi => lyE_ok.1 ?_⟩
    exact eachE_ok.1 h _ (by rw [List.getD_eq_getElem?_getD, List.getElem?_eq_getElem hi]; exact List.getElem_mem hi)
  · rename_i h0; exact absurd h h0
theorem deepS_bd {sp : Dv → Int} {T : Nat} (hT : T ≤ 100000) : ∀ (l : List Dv) (k : Nat) (p : Qt) (top : Nat), (∀ x ∈ l, (1 ≤ x.1 ∧ x.1 ≤ 10000) ∧ 1 ≤ sp x ∧ sp x ≤ 100) → k + l.length ≤ 6 → 0 < p.2 → p.2 ≤ 100 ^ k → p.1 ≤ T * p.2 → top ≤ 10000 * k →
    0 < (deepS sp T l p top).2 ∧ (deepS sp T l p top).2 ≤ 1000000000000 ∧ (deepS sp T l p top).1 ≤ 200000000000000000
  | [], k, p, top, _, hk, h0, h1, h2, h3 => by
    simp only [List.length_nil] at hk
    have b0 : p.2 ≤ 1000000000000 := Nat.le_trans h1 (Nat.le_trans (Nat.pow_le_pow_right (by decide) (show k ≤ 6 by omega)) (by decide))
    have b1 : T * p.2 ≤ 100000 * 1000000000000 := Nat.mul_le_mul hT b0
    simp only [deepS]; omega
  | x :: r, k, p, top, ho, hk, h0, h1, h2, h3 => by
    simp only [List.length_cons] at hk
    have hx := ho x (.head _)
    have b0 : p.2 ≤ 10000000000 := Nat.le_trans h1 (Nat.le_trans (Nat.pow_le_pow_right (by decide) (show k ≤ 5 by omega)) (by decide))
    have b1 : T * p.2 ≤ 100000 * 10000000000 := Nat.mul_le_mul hT b0
    rw [deepS]
    split
    · have b3 : top * p.2 ≤ 60000 * 10000000000 := Nat.mul_le_mul (by omega) b0
      have b4 : (T * p.2 - p.1) * (sp x).toNat ≤ 1000000000000000 * 100 := Nat.mul_le_mul (by omega) (by omega)
      refine ⟨h0, ?_, ?_⟩ <;> simp only <;> omega
    · rename_i hn
      have r1 := plusQ_pos (q := p) (o := lyQ x.1 (sp x)) h0 (by simp only [lyQ]; omega)
      have r2 := plusQ_den (q := p) (o := lyQ x.1 (sp x))
      have r3 : p.2 * (lyQ x.1 (sp x)).2 ≤ p.2 * 100 := Nat.mul_le_mul_left _ (by simp only [lyQ]; omega)
      have r4 : p.2 * 100 ≤ 100 ^ (k + 1) := by rw [Nat.pow_succ]; exact Nat.mul_le_mul_right _ h1
      exact deepS_bd hT r (k + 1) _ _ (fun y hy => ho y (.tail _ hy)) (by omega) r1 (by omega) (Nat.le_of_not_lt fun h => hn (.inr h)) (by omega)
theorem lateS_bd {sp : Dv → Int} : ∀ (l : List Dv) (k : Nat) (d : Int) (p : Qt), (∀ x ∈ l, (1 ≤ x.1 ∧ x.1 ≤ 10000) ∧ 1 ≤ sp x ∧ sp x ≤ 100) → k + l.length ≤ 6 → 0 < p.2 → p.2 ≤ 100 ^ k → p.1 ≤ 100000 * 101 ^ k → 0 ≤ d → d ≤ 100000 →
    0 < (lateS sp l d p).2 ∧ (lateS sp l d p).2 ≤ 1000000000000 ∧ (lateS sp l d p).1 ≤ 200000000000000000
  | [], k, d, p, _, hk, h0, h1, h2, h3, h4 => by
    simp only [List.length_nil] at hk
    have b0 : p.2 ≤ 1000000000000 := Nat.le_trans h1 (Nat.le_trans (Nat.pow_le_pow_right (by decide) (show k ≤ 6 by omega)) (by decide))
    have b1 : p.1 ≤ 100000 * 1061520150601 := Nat.le_trans h2 (Nat.mul_le_mul_left _ (Nat.le_trans (Nat.pow_le_pow_right (by decide) (show k ≤ 6 by omega)) (by decide)))
    simp only [lateS]; omega
  | x :: r, k, d, p, ho, hk, h0, h1, h2, h3, h4 => by
    simp only [List.length_cons] at hk
    have hx := ho x (.head _)
    have b2 : 100 ^ k ≤ 101 ^ k := Nat.pow_le_pow_left (by decide) k
    have ha : 0 ≤ latePart (r = []) x.1 d ∧ latePart (r = []) x.1 d ≤ d := by rw [latePart]; split <;> omega
    rw [lateS]
    generalize latePart (r = []) x.1 d = a at *
    have r1 := plusQ_pos (q := p) (o := lyQ a (sp x)) h0 (by simp only [lyQ]; omega)
    have r2 := plusQ_den (q := p) (o := lyQ a (sp x))
    have r3 : p.2 * (lyQ a (sp x)).2 ≤ p.2 * 100 := Nat.mul_le_mul_left _ (by simp only [lyQ]; omega)
    have r4 : p.2 * 100 ≤ 100 ^ (k + 1) := by rw [Nat.pow_succ]; exact Nat.mul_le_mul_right _ h1
    have r5 := plusQ_num (q := p) (o := lyQ a (sp x))
    have r6 : p.1 * (lyQ a (sp x)).2 ≤ p.1 * 100 := Nat.mul_le_mul_left _ (by simp only [lyQ]; omega)
    have r7 : (lyQ a (sp x)).1 * p.2 ≤ 100000 * p.2 := Nat.mul_le_mul_right _ (by simp only [lyQ]; omega)
    exact lateS_bd r (k + 1) _ _ (fun y hy => ho y (.tail _ hy)) (by omega) r1 (by omega) (by rw [Nat.pow_succ]; omega) (by omega) (by omega)
theorem LyOk.mem {l : List Dv} (hO : LyOk l) {x : Dv} (hx : x ∈ l) : lyOk x ∧ x.2.1 ≤ x.2.2 := by
  obtain ⟨i, hi, rfl⟩ := List.mem_iff_getElem.1 hx
  have := hO.ok i hi
  rwa [List.getD_eq_getElem?_getD, List.getElem?_eq_getElem hi] at this
theorem C9 {l : List Dv} {T : Int} : l.length ≤ 1000000 → PFD Try.prog 9 [.c (trs l), vi .i64 T] (.tup [pr (dpS l T).1, vi .i64 (dpS l T).2]) := fun hl => by
  by_cases h0 : lsE l T 100000 = 0
  · rw [dpS, if_pos h0]
    have hh := fst2.1 (show fstE [(lysE l).2, unl (0 ≤ T ∧ T ≤ 100000) 2] = 0 from h0)
    have hO := lysE_ok hh.1
    have hT := (unl0 (by decide)).1 hh.2
    have hn := hO.n
    have c1 := C28 (g := 26) (sp := lo) (fun x => C26) (l := l) (T := T.toNat) ⟨hO, fun i hi => by have := hO.ok i hi; simp only [lo]; omega, by omega⟩
    have c2 := C28 (g := 24) (sp := hi) (fun x => C24) (l := l) (T := T.toNat) ⟨hO, fun i hi => by have := hO.ok i hi; simp only [Pw.hi]; omega, by omega⟩
    have d1 := deepS_bd (sp := lo) (T := T.toNat) (by omega) l 0 (0, 1) 0 (fun x hx => by have := hO.mem hx; simp only [lo]; omega) (by omega) (by decide) (by decide) (by simp) (by simp)
    have d2 := deepS_bd (sp := hi) (T := T.toNat) (by omega) l 0 (0, 1) 0 (fun x hx => by have := hO.mem hx; simp only [hi]; omega) (by omega) (by decide) (by decide) (by simp) (by simp)
    rw [show ((T.toNat : Nat) : Int) = T by omega] at c1 c2
    generalize deepS lo T.toNat l (0, 1) 0 = p at *
    generalize deepS hi T.toNat l (0, 1) 0 = q at *
    refine pi2 fn9 ?_
    (repeat' first | (refine Owe.same ?_; first | refine Owe.o ?_ | refine Owe.mk ?_ ?_) | (refine Fork.same ?_; (first | refine fkD ?_ ?_ | refine fkN ?_ ?_ | refine fkM ?_ ?_) <;> intro h) | ((first | refine OpsL.same ?_ | refine OpsDL.same ?_); first | refine oK (C22 hl) rfl rfl rfl ?_ | refine oK c1 rfl rfl rfl ?_ | refine oK c2 rfl rfl rfl ?_ | refine oK C25 rfl rfl rfl ?_ | refine oK C27 rfl rfl rfl ?_) | refine MvQ.stay ?_)
    · exact absurd h0 h
    · (refine rqK rfl ?_; (repeat' first | exact rfl | (refine qS ?_; constructor)))
  · rw [dpS, if_neg h0]
    refine pi2 fn9 ?_
    (repeat' first | (refine Owe.same ?_; first | refine Owe.o ?_ | refine Owe.mk ?_ ?_) | (refine Fork.same ?_; (first | refine fkD ?_ ?_ | refine fkN ?_ ?_ | refine fkM ?_ ?_) <;> intro h) | ((first | refine OpsL.same ?_ | refine OpsDL.same ?_); first | refine pK (C22 hl) rfl rfl ?_) | refine MvQ.stay ?_)
    · (refine rqK rfl ?_; (repeat' first | exact rfl | (refine qS ?_; constructor)))
    · exact absurd h h0
theorem C7 {l : List Dv} {D : Int} : l.length ≤ 1000000 → PFD Try.prog 7 [.c (trs l), vi .i64 D] (.tup [pr (tmS l D).1, vi .i64 (tmS l D).2]) := fun hl => by
  by_cases h0 : lsE l D 100000 = 0
  · rw [tmS, if_pos h0]
    have hh := fst2.1 (show fstE [(lysE l).2, unl (0 ≤ D ∧ D ≤ 100000) 2] = 0 from h0)
    have hO := lysE_ok hh.1
    have hT := (unl0 (by decide)).1 hh.2
    have hn := hO.n
    have c1 := C23 (g := 26) (sp := lo) (fun x => C26) (l := l) (D := D) ⟨hO, fun i hi => by have := hO.ok i hi; simp only [lo]; omega, by omega⟩
    have c2 := C23 (g := 24) (sp := hi) (fun x => C24) (l := l) (D := D) ⟨hO, fun i hi => by have := hO.ok i hi; simp only [Pw.hi]; omega, by omega⟩
    have d1 := lateS_bd (sp := lo) l 0 D (0, 1) (fun x hx => by have := hO.mem hx; simp only [lo]; omega) (by omega) (by decide) (by decide) (by simp) hT.1 hT.2
    have d2 := lateS_bd (sp := hi) l 0 D (0, 1) (fun x hx => by have := hO.mem hx; simp only [hi]; omega) (by omega) (by decide) (by decide) (by simp) hT.1 hT.2
    generalize lateS lo l D (0, 1) = p at *
    generalize lateS hi l D (0, 1) = q at *
    refine pi2 fn7 ?_
    (repeat' first | (refine Owe.same ?_; first | refine Owe.o ?_ | refine Owe.mk ?_ ?_) | (refine Fork.same ?_; (first | refine fkD ?_ ?_ | refine fkN ?_ ?_ | refine fkM ?_ ?_) <;> intro h) | ((first | refine OpsL.same ?_ | refine OpsDL.same ?_); first | refine oK (C22 hl) rfl rfl rfl ?_ | refine oK c1 rfl rfl rfl ?_ | refine oK c2 rfl rfl rfl ?_ | refine oK C25 rfl rfl rfl ?_ | refine oK C27 rfl rfl rfl ?_) | refine MvQ.stay ?_)
    · exact absurd h0 h
    · (refine rqK rfl ?_; (repeat' first | exact rfl | (refine qS ?_; constructor)))
  · rw [tmS, if_neg h0]
    refine pi2 fn7 ?_
    (repeat' first | (refine Owe.same ?_; first | refine Owe.o ?_ | refine Owe.mk ?_ ?_) | (refine Fork.same ?_; (first | refine fkD ?_ ?_ | refine fkN ?_ ?_ | refine fkM ?_ ?_) <;> intro h) | ((first | refine OpsL.same ?_ | refine OpsDL.same ?_); first | refine pK (C22 hl) rfl rfl ?_) | refine MvQ.stay ?_)
    · (refine rqK rfl ?_; (repeat' first | exact rfl | (refine qS ?_; constructor)))
    · exact absurd h h0
end Go.Pw

set_option linter.unusedSimpArgs false
set_option linter.unusedVariables false
namespace Go.Pw
/-- What a function says along a range of numbers, one after the other. -/
def catR {α : Type} (f : Int → List α) (a : Int) : Nat → List α
  | 0 => []
  | k + 1 => catR f a k ++ f (a + k)
section
variable {α β : Type} {f g : Int → List α}
theorem catR_len {a : Int} {c k : Nat} (h : ∀ x, (f x).length ≤ c) : (catR f a k).length ≤ k * c := by
  induction k with
  | zero => exact Nat.zero_le _
  | succ k ih => rw [catR, List.length_append, Nat.succ_mul]; have := h (a + k); omega
theorem catR_mem {a : Int} {k : Nat} {x : α} : x ∈ catR f a k ↔ ∃ i : Nat, i < k ∧ x ∈ f (a + i) := by
  induction k with
  | zero => simp [catR]
  | succ k ih =>
    rw [catR, List.mem_append, ih]
    constructor
    · rintro (⟨i, hi, h⟩ | h)
      · exact ⟨i, by omega, h⟩
      · exact ⟨k, by omega, h⟩
    · rintro ⟨i, hi, h⟩
      by_cases hk : i = k
      · subst hk; exact .inr h
      · exact .inl ⟨i, by omega, h⟩
end
abbrev Cel := Int × Int
abbrev Ry := Cel × Cel × Bool
def Ry.dx (r : Ry) : Int := r.2.1.1 - r.1.1
def Ry.dy (r : Ry) : Int := r.2.1.2 - r.1.2
def Ry.mid (r : Ry) (x y : Int) : Int := r.dx * 2 * (y - r.1.2) - r.dy * 2 * (x - r.1.1)
def sz (n : Int) : Int := max n (-n)
/-- In the rectangle of both ends a ray crosses this cell. -/
def crs (r : Ry) (x y : Int) : Bool := decide (sz (r.mid x y) < sz r.dx + sz r.dy ∨ (r.dx = 0 ∧ r.dy = 0))
def crC (r : Ry) (y x : Int) : List Cel := if crs r x y then [(x, y)] else []
def Ry.x0 (r : Ry) : Int := min r.1.1 r.2.1.1
def Ry.y0 (r : Ry) : Int := min r.1.2 r.2.1.2
def Ry.wn (r : Ry) : Nat := (sz r.dx).toNat + 1
def Ry.hn (r : Ry) : Nat := (sz r.dy).toNat + 1
def crR (r : Ry) (y : Int) : List Cel := catR (crC r y) r.x0 r.wn
/-- The cells that a ray crosses. -/
def crS (r : Ry) : List Cel := catR (crR r) r.y0 r.hn
def inG (c : Cel) (w h : Int) : Prop := (0 ≤ c.1 ∧ c.1 ≤ w - 1) ∧ 0 ≤ c.2 ∧ c.2 ≤ h - 1
instance (c : Cel) (w h : Int) : Decidable (inG c w h) := by unfold inG; infer_instance
def ryOk (r : Ry) (w h : Int) : Prop := inG r.1 w h ∧ inG r.2.1 w h
instance (r : Ry) (w h : Int) : Decidable (ryOk r w h) := by unfold ryOk; infer_instance
theorem crC_len (r : Ry) (y x : Int) : (crC r y x).length ≤ 1 := by rw [crC]; split <;> simp
theorem crR_len {r : Ry} {y : Int} : (crR r y).length ≤ r.wn := by have := catR_len (a := r.x0) (k := r.wn) (crC_len r y); rw [crR]; omega
theorem wn_le {r : Ry} {w h : Int} (ho : ryOk r w h) : (r.wn : Int) ≤ w := by
  have h1 := ho.1.1; have h2 := ho.2.1
  rw [Ry.wn, Ry.dx, sz]; omega
theorem hn_le {r : Ry} {w h : Int} (ho : ryOk r w h) : (r.hn : Int) ≤ h := by
  have h1 := ho.1.2; have h2 := ho.2.2
  rw [Ry.hn, Ry.dy, sz]; omega
theorem mem_crC {r : Ry} {x y : Int} {c : Cel} : c ∈ crC r y x ↔ crs r x y = true ∧ c = (x, y) := by
  rw [crC]; split <;> simp_all
/-- Every cell that is crossed lies in the rectangle of both ends. -/
theorem crS_mem {r : Ry} {c : Cel} : c ∈ crS r ↔ crs r c.1 c.2 = true ∧ (r.x0 ≤ c.1 ∧ c.1 < r.x0 + r.wn) ∧ r.y0 ≤ c.2 ∧ c.2 < r.y0 + r.hn := by
  rw [crS, catR_mem]
  constructor
  · rintro ⟨i, hi, h⟩
    obtain ⟨j, hj, h1⟩ := catR_mem.1 h
    obtain ⟨h2, rfl⟩ := mem_crC.1 h1
    exact ⟨h2, ⟨by simp only; omega, by simp only; omega⟩, by simp only; omega, by simp only; omega⟩
  · rintro ⟨h, hx, hy⟩
    refine ⟨(c.2 - r.y0).toNat, by omega, catR_mem.2 ⟨(c.1 - r.x0).toNat, by omega, mem_crC.2 ?_⟩⟩
    have e1 : r.x0 + ((c.1 - r.x0).toNat : Int) = c.1 := by omega
    have e2 : r.y0 + ((c.2 - r.y0).toNat : Int) = c.2 := by omega
    rw [e1, e2]; exact ⟨h, rfl⟩
theorem crS_len {r : Ry} : (crS r).length ≤ r.hn * r.wn := catR_len fun _ => crR_len
end Go.Pw

set_option linter.unusedSimpArgs false
set_option linter.unusedVariables false
namespace Go.Pw
set_option maxRecDepth 2000
open Go Go.Proofs A1 A2 A3 A4
abbrev r5 (r : Ry) : List D := [dI r.1.1, dI r.1.2, dI r.2.1.1, dI r.2.1.2, .v (.bool r.2.2)]
abbrev ryd : Ry := ((0, 0), (0, 0), false)
abbrev rys (l : List Ry) : C := slv 5 r5 ryd l
abbrev ryv (r : Ry) : V := .agg [int r.1.1, int r.1.2, int r.2.1.1, int r.2.1.2, .d (.v (.bool r.2.2))]
theorem C77 {c : Pr} {w g : Int} : ((-1000000 ≤ w ∧ w ≤ 1000000) ∧ -1000000 ≤ g ∧ g ≤ 1000000) → PFD Try.prog 77 [pr c, vi .i64 w, vi .i64 g] (vbl (decide (inG c w g))) := fun ⟨hw, hh⟩ => by
  refine pi1 fn77 ?_
  (repeat' first | (refine Owe.same ?_; first | refine Owe.o ?_ | refine Owe.mk ?_ ?_) | (refine Fork.same ?_; (first | refine fkD ?_ ?_ | refine fkN ?_ ?_ | refine fkM ?_ ?_) <;> intro h) | ((first | refine OpsL.same ?_ | refine OpsDL.same ?_); first | refine pK C42 rfl rfl ?_) | refine MvQ.stay ?_)
  · (refine rqK rfl ?_; (repeat' first | exact rfl | (refine qS ?_; constructor)))
    exact decide_eq_decide.2 ⟨fun hh => ⟨h, hh⟩, fun hh => hh.2⟩
  · (refine rqK rfl ?_; (repeat' first | exact rfl | (refine qS ?_; constructor)))
    rw [decide_eq_false]; exact fun hh => h hh.1
theorem C68 {r : Ry} {w g : Int} : ((-1000000 ≤ w ∧ w ≤ 1000000) ∧ -1000000 ≤ g ∧ g ≤ 1000000) → PFD Try.prog 68 [ryv r, vi .i64 w, vi .i64 g] (vi .i64 (unl (ryOk r w g) 6)) := fun ⟨hw, hh⟩ => by
  refine pi1 fn68 ?_
  (repeat' first | (refine Owe.same ?_; first | refine Owe.o ?_ | refine Owe.mk ?_ ?_) | (refine Fork.same ?_; (first | refine fkD ?_ ?_ | refine fkN ?_ ?_ | refine fkM ?_ ?_) <;> intro h) | ((first | refine OpsL.same ?_ | refine OpsDL.same ?_); first | refine pK C77 rfl rfl ?_ | refine pK C41 rfl rfl ?_) | refine MvQ.stay ?_)
  · (refine rqK rfl ?_; (repeat' first | exact rfl | (refine qS ?_; constructor)))
    rw [unl]; congr 1; exact decide_eq_decide.2 ⟨fun hh => ⟨h, hh⟩, fun hh => hh.2⟩
  · (refine rqK rfl ?_; (repeat' first | exact rfl | (refine qS ?_; constructor)))
    rw [unl, decide_eq_false]; exact fun hh => h hh.1
theorem mulb {a b : Int} (ha : -12 ≤ a ∧ a ≤ 12) (hb : -12 ≤ b ∧ b ≤ 12) : -288 ≤ a * 2 * b ∧ a * 2 * b ≤ 288 := by
  have h1 : (a * 2) * b ≤ 288 ∧ -288 ≤ (a * 2) * b := by
    have e : (a * 2) * b = 2 * (a * b) := by rw [Int.mul_comm a 2, Int.mul_assoc]
    rw [e]
    have : a.natAbs * b.natAbs ≤ 12 * 12 := Nat.mul_le_mul (by omega) (by omega)
    rw [← Int.natAbs_mul] at this
    omega
  omega
theorem C71 {r : Ry} : ryOk r 12 12 → PFD Try.prog 71 [ryv r] (.c (prs (crS r))) := fun hO => by
  obtain ⟨⟨fx, fy⟩, ⟨tx, ty⟩, b⟩ := r
  obtain ⟨⟨hx1, hy1⟩, hx2, hy2⟩ := hO
  simp only at hx1 hy1 hx2 hy2
  have hwn : ((Ry.wn ((fx, fy), (tx, ty), b) : Nat) : Int) = max fx tx - min fx tx + 1 := by simp only [Ry.wn, Ry.dx, sz]; omega
  have hhn : ((Ry.hn ((fx, fy), (tx, ty), b) : Nat) : Int) = max fy ty - min fy ty + 1 := by simp only [Ry.hn, Ry.dy, sz]; omega
  obtain ⟨S, hS⟩ : ∃ S, S = crS ((fx, fy), (tx, ty), b) := ⟨_, rfl⟩
  rw [← hS]
  refine pi1 fn71 ?_
  (repeat' first | (refine Owe.same ?_; first | refine Owe.o ?_ | refine Owe.mk ?_ ?_) | (refine Fork.same ?_; (first | refine fkD ?_ ?_ | refine fkN ?_ ?_ | refine fkM ?_ ?_) <;> intro h) | refine MvQ.stay ?_)
  refine Sat.nilS 5 74 2 (fun i => r2 (([] : List Pr).getD i (0, 0))) rfl ?_
  refine Sat.lp (fun s : Int × List Pr => ⟨[(6, vi .i64 s.1), (3, vi .i64 (tx - fx)), (4, vi .i64 (ty - fy)), (1, .c (.rp [dI fx, dI fy, dI tx, dI ty, .v (.bool b)])), (5, .c (.ms 0 s.2.length))], [(0, rowv 74 2 r2 (0, 0) s.2)], 1⟩)
    (fun s => (min fy ty ≤ s.1 ∧ s.1 ≤ max fy ty + 1) ∧ s.2 = catR (crR ((fx, fy), (tx, ty), b)) (min fy ty) (s.1 - min fy ty).toNat) (fun s => (max fy ty + 1 - s.1).toNat) (min fy ty, []) [16] ?_ ?_ ?_
  · refine ⟨by simp only; omega, ?_⟩
    simp only [Int.sub_self]; rfl
  · (refine qis ?_ ?_ <;> (repeat' first | exact rfl | (refine qS ?_; constructor)))
  · intro ⟨y, out⟩ hk
    simp only at hk ⊢
    have hol : out.length ≤ (y - min fy ty).toNat * Ry.wn ((fx, fy), (tx, ty), b) := by rw [hk.2]; exact catR_len fun _ => crR_len
    have hol2 : (y - min fy ty).toNat * Ry.wn ((fx, fy), (tx, ty), b) ≤ 12 * 12 := Nat.mul_le_mul (by omega) (by omega)
    (repeat' first | (refine Owe.same ?_; first | refine Owe.o ?_ | refine Owe.mk ?_ ?_) | (refine Fork.same ?_; (first | refine fkD ?_ ?_ | refine fkN ?_ ?_ | refine fkM ?_ ?_) <;> intro h) | refine MvQ.stay ?_)
    · refine Sat.lp (fun s : Int × List Pr => ⟨[(7, vi .i64 s.1), (6, vi .i64 y), (3, vi .i64 (tx - fx)), (4, vi .i64 (ty - fy)), (1, .c (.rp [dI fx, dI fy, dI tx, dI ty, .v (.bool b)])), (5, .c (.ms 0 s.2.length))], [(0, rowv 74 2 r2 (0, 0) s.2)], 1⟩)
        (fun s => (min fx tx ≤ s.1 ∧ s.1 ≤ max fx tx + 1) ∧ s.2 = out ++ catR (crC ((fx, fy), (tx, ty), b) y) (min fx tx) (s.1 - min fx tx).toNat) (fun s => (max fx tx + 1 - s.1).toNat) (min fx tx, out) [0] ?_ ?_ ?_
      · refine ⟨by simp only; omega, ?_⟩
        simp only [Int.sub_self]; exact (List.append_nil _).symm
      · (refine qis ?_ ?_ <;> (repeat' first | exact rfl | (refine qS ?_; constructor)))
      · intro ⟨x, o⟩ hj
        simp only at hj ⊢
        have hjl := catR_len (f := crC ((fx, fy), (tx, ty), b) y) (a := min fx tx) (k := (x - min fx tx).toNat) (crC_len _ _)
        have hjl : o.length ≤ 200 := by rw [hj.2, List.length_append]; omega
        have hs : catR (crC ((fx, fy), (tx, ty), b) y) (min fx tx) (x + 1 - min fx tx).toNat = catR (crC ((fx, fy), (tx, ty), b) y) (min fx tx) (x - min fx tx).toNat ++ crC ((fx, fy), (tx, ty), b) y x := by
          have e : (x + 1 - min fx tx).toNat = (x - min fx tx).toNat + 1 := by omega
          rw [e, catR]; congr 2; omega
        have m1 := mulb (a := tx - fx) (b := y - fy) (by omega) (by omega)
        have m2 := mulb (a := ty - fy) (b := x - fx) (by omega) (by omega)
        (repeat' first | (refine Owe.same ?_; first | refine Owe.o ?_ | refine Owe.mk ?_ ?_) | (refine Fork.same ?_; (first | refine fkD ?_ ?_ | refine fkN ?_ ?_ | refine fkM ?_ ?_) <;> intro h) | ((first | refine OpsL.same ?_ | refine OpsDL.same ?_); first | refine pK C62 rfl rfl ?_) | refine MvQ.stay ?_)
        · have hc : crC ((fx, fy), (tx, ty), b) y x = [(x, y)] := by
            rw [crC, if_pos]; rw [crs]; exact decide_eq_true (.inl h)
          rw [hc] at hs
          refine again (x + 1, o ++ [(x, y)]) [1] ⟨by simp only; omega, by simp only; rw [hs, hj.2, List.append_assoc]⟩ (by simp only; omega) ?_
          (refine qis ?_ ?_ <;> (repeat' first | exact rfl | (refine qS ?_; constructor)))
          simp
        · rename_i h0 h1 h2
          have hc : crC ((fx, fy), (tx, ty), b) y x = [(x, y)] := by
            rw [crC, if_pos]; rw [crs]; exact decide_eq_true (.inr ⟨h2, h⟩)
          rw [hc] at hs
          refine again (x + 1, o ++ [(x, y)]) [1] ⟨by simp only; omega, by simp only; rw [hs, hj.2, List.append_assoc]⟩ (by simp only; omega) ?_
          (refine qis ?_ ?_ <;> (repeat' first | exact rfl | (refine qS ?_; constructor)))
          simp
        · rename_i h0 h1 h2
          have hc : crC ((fx, fy), (tx, ty), b) y x = [] := by
            rw [crC, if_neg]; rw [crs]; exact fun hh => (of_decide_eq_true hh).elim h1 fun hq => h hq.2
          rw [hc, List.append_nil] at hs
          refine again (x + 1, o) [0] ⟨by simp only; omega, by simp only; rw [hs, hj.2]⟩ (by simp only; omega) ?_
          (refine qis ?_ ?_ <;> (repeat' first | exact rfl | (refine qS ?_; constructor)))
        · rename_i h0 h1
          have hc : crC ((fx, fy), (tx, ty), b) y x = [] := by
            rw [crC, if_neg]; rw [crs]; exact fun hh => (of_decide_eq_true hh).elim h1 fun hq => h hq.1
          rw [hc, List.append_nil] at hs
          refine again (x + 1, o) [0] ⟨by simp only; omega, by simp only; rw [hs, hj.2]⟩ (by simp only; omega) ?_
          (refine qis ?_ ?_ <;> (repeat' first | exact rfl | (refine qS ?_; constructor)))
        · have e : (x - min fx tx).toNat = Ry.wn ((fx, fy), (tx, ty), b) := by omega
          have e2 : (y + 1 - min fy ty).toNat = (y - min fy ty).toNat + 1 := by omega
          refine again (y + 1, o) [0] ⟨by simp only; omega, ?_⟩ (by simp only; omega) ?_
          · simp only
            rw [e2, catR, hj.2, hk.2, e]
            congr 1
            have : min fy ty + ((y - min fy ty).toNat : Int) = y := by omega
            rw [this]; rfl
          · (refine qis ?_ ?_ <;> (repeat' first | exact rfl | (refine qS ?_; constructor)))
    · have e : out = S := by
        rw [hk.2, hS, crS]
        have : (y - min fy ty).toNat = Ry.hn ((fx, fy), (tx, ty), b) := by omega
        rw [this]; rfl
      subst e
      (repeat' first | (refine Owe.same ?_; first | refine Owe.o ?_ | refine Owe.mk ?_ ?_) | (refine Fork.same ?_; (first | refine fkD ?_ ?_ | refine fkN ?_ ?_ | refine fkM ?_ ?_) <;> intro h) | refine MvQ.stay ?_)
      refine rqF 0 _ rfl rfl rfl ?_; (repeat' first | exact rfl | (refine qS ?_; constructor))
end Go.Pw

set_option linter.unusedSimpArgs false
set_option linter.unusedVariables false
namespace Go.Pw
set_option maxRecDepth 2000
open Go Go.Proofs A1 A2 A3 A4
abbrev Sc := Int × Int × List Ry
abbrev rysD (l : List Ry) : D := .sl 5 l.length fun i => r5 (l.getD i ryd)
abbrev scD (s : Sc) : List D := [dI s.1, dI s.2.1, rysD s.2.2]
abbrev scv (s : Sc) : V := .agg [int s.1, int s.2.1, rys s.2.2]
theorem C76 {n : Int} : PFD Try.prog 76 [vi .i64 n] (vbl (decide (1 ≤ n ∧ n ≤ 12))) := by
  refine pi1 fn76 ?_
  (repeat' first | (refine Owe.same ?_; first | refine Owe.o ?_ | refine Owe.mk ?_ ?_) | (refine Fork.same ?_; (first | refine fkD ?_ ?_ | refine fkN ?_ ?_ | refine fkM ?_ ?_) <;> intro h) | ((first | refine OpsL.same ?_ | refine OpsDL.same ?_); first | refine pK C42 rfl rfl ?_) | refine MvQ.stay ?_)
  (refine rqK rfl ?_; (repeat' first | exact rfl | (refine qS ?_; constructor)))
/-- The error of columns and rows, and of the number of rays. -/
def gridE (w h : Int) (n : Int) : Int := fstE [unl ((1 ≤ w ∧ w ≤ 12) ∧ 1 ≤ h ∧ h ≤ 12) 2, unl (n ≤ 10) 8]
theorem unl_of {p : Prop} [Decidable p] {b : Bool} {e : Int} (h : b = decide p) : unb b e = unl p e := by subst h; rfl
theorem C65 {w g n : Int} : PFD Try.prog 65 [vi .i64 w, vi .i64 g, vi .i64 n] (vi .i64 (gridE w g n)) := by
  refine pi1 fn65 ?_
  (repeat' first | (refine Owe.same ?_; first | refine Owe.o ?_ | refine Owe.mk ?_ ?_) | (refine Fork.same ?_; (first | refine fkD ?_ ?_ | refine fkN ?_ ?_ | refine fkM ?_ ?_) <;> intro h) | ((first | refine OpsL.same ?_ | refine OpsDL.same ?_); first | refine pK C76 rfl rfl ?_ | refine pK C41 rfl rfl ?_ | refine pK C40 rfl rfl ?_) | refine MvQ.stay ?_)
  · (refine rqK rfl ?_; (repeat' first | exact rfl | (refine qS ?_; constructor)))
    rw [gridE, ← unl_of (decide_eq_decide.2 ⟨fun hh => ⟨h, hh⟩, fun hh => hh.2⟩)]
  · (refine rqK rfl ?_; (repeat' first | exact rfl | (refine qS ?_; constructor)))
    rw [gridE, ← unl_of (decide_eq_false fun hh => h hh.1).symm]
theorem C67 {i : Int} {r : Ry} {w g : Int} {d : D} : ((-1000000 ≤ w ∧ w ≤ 1000000) ∧ -1000000 ≤ g ∧ g ≤ 1000000) → PFD Try.prog 67 [vi .i64 i, ryv r, .c (.rp [dI w, dI g, d])] (vi .i64 (unl (ryOk r w g) 6)) := fun hw => by
  refine pi1 fn67 ?_
  (repeat' first | (refine Owe.same ?_; first | refine Owe.o ?_ | refine Owe.mk ?_ ?_) | (refine Fork.same ?_; (first | refine fkD ?_ ?_ | refine fkN ?_ ?_ | refine fkM ?_ ?_) <;> intro h) | ((first | refine OpsL.same ?_ | refine OpsDL.same ?_); first | refine pK C68 rfl rfl ?_) | refine MvQ.stay ?_)
  (refine rqK rfl ?_; (repeat' first | exact rfl | (refine qS ?_; constructor)))
theorem C66 {g : FuncId} {rows : List (List D)} {f : Ry → Int} (hg : ∀ (i : Int) (x : Ry), PFD Try.prog g (vi .i64 i :: ryv x :: rows.map fun r => .c (.rp r)) (vi .i64 (f x))) {l : List Ry} : l.length ≤ 1000000 → PFD Try.prog 66 [.c (rys l), .c (.fnR g rows)] (.tup [vi .i64 (eachE f 0 l).1, vi .i64 (eachE f 0 l).2]) := fun hl => by
  refine pi2 fn66 ?_
  (repeat' first | (refine Owe.same ?_; first | refine Owe.o ?_ | refine Owe.mk ?_ ?_) | (refine Fork.same ?_; (first | refine fkD ?_ ?_ | refine fkN ?_ ?_ | refine fkM ?_ ?_) <;> intro h) | refine MvQ.stay ?_)
  refine Sat.lp0 (fun k : Nat => [(11, vi .i64 k), (10, vi .i64 l.length), (9, .c (rys l)), (1, .c (.fnR g rows))]) (fun k => k ≤ l.length ∧ eachE f 0 l = eachE f k (l.drop k)) (fun k => l.length - k) 0 ⟨Nat.zero_le _, rfl⟩ (by ((first | refine qen ?_ | refine qvs ?_ | refine qeq ?_ | refine qst ?_ | refine qv ?_ | refine qc ?_ | refine qe ?_ | refine qcs ?_ | skip); (repeat' first | exact rfl | (refine qS ?_; constructor)))) ?_
  intro k hk
  (repeat' first | (refine Owe.same ?_; first | refine Owe.o ?_ | refine Owe.mk ?_ ?_) | (refine Fork.same ?_; (first | refine fkD ?_ ?_ | refine fkN ?_ ?_ | refine fkM ?_ ?_) <;> intro h) | ((first | refine OpsL.same ?_ | refine OpsDL.same ?_); first | refine pR (hg _ (l.getD k ryd)) rfl rfl ?_) | refine MvQ.stay ?_)
  · have e := eachE_drop f ryd l k (by omega)
    have h : ¬ f (l.getD k ryd) = 0 := h
    rw [if_neg h, ← hk.2] at e
    (refine rqK rfl ?_; (repeat' first | exact rfl | (refine qS ?_; constructor))) <;> rw [e]
  · have e := eachE_drop f ryd l k (by omega)
    have h : f (l.getD k ryd) = 0 := h
    rw [if_pos h, ← hk.2] at e
    exact again0 (k + 1) ⟨by omega, e⟩ (by omega) (by ((first | refine qen ?_ | refine qvs ?_ | refine qeq ?_ | refine qst ?_ | refine qv ?_ | refine qc ?_ | refine qe ?_ | refine qcs ?_ | skip); (repeat' first | exact rfl | (refine qS ?_; constructor))))
  · have e : eachE f 0 l = (0, 0) := by rw [hk.2, List.drop_of_length_le (by omega)]; rfl
    (refine rqK rfl ?_; (repeat' first | exact rfl | (refine qS ?_; constructor))) <;> rw [e]
/-- The error of a scene, with the index of a ray. -/
def scE (s : Sc) : Int × Int := if gridE s.1 s.2.1 s.2.2.length = 0 then eachE (fun r => unl (ryOk r s.1 s.2.1) 6) 0 s.2.2 else (0, gridE s.1 s.2.1 s.2.2.length)
theorem gridE_ok {w h n : Int} : gridE w h n = 0 ↔ ((1 ≤ w ∧ w ≤ 12) ∧ 1 ≤ h ∧ h ≤ 12) ∧ n ≤ 10 := by
  rw [gridE, fst2, unl0 (by decide), unl0 (by decide)]
theorem C50 {s : Sc} : s.2.2.length ≤ 1000000 → PFD Try.prog 50 [scv s] (.tup [vi .i64 (scE s).1, vi .i64 (scE s).2]) := fun hl => by
  obtain ⟨w, g, l⟩ := s
  refine pi2 fn50 ?_
  (repeat' first | (refine Owe.same ?_; first | refine Owe.o ?_ | refine Owe.mk ?_ ?_) | (refine Fork.same ?_; (first | refine fkD ?_ ?_ | refine fkN ?_ ?_ | refine fkM ?_ ?_) <;> intro h) | ((first | refine OpsL.same ?_ | refine OpsDL.same ?_); first | refine pK C65 rfl rfl ?_) | refine MvQ.stay ?_)
  · have h : ¬ gridE w g l.length = 0 := h
    (refine rqK rfl ?_; (repeat' first | exact rfl | (refine qS ?_; constructor))) <;> rw [scE, if_neg h]
  · have h : gridE w g l.length = 0 := h
    have hr : scE (w, g, l) = eachE (fun r => unl (ryOk r w g) 6) 0 l := by rw [scE, if_pos h]
    rw [hr]
    have hb := gridE_ok.1 h
    have c1 := C66 (g := 67) (rows := [scD (w, g, l)]) (f := fun r => unl (ryOk r w g) 6) (fun i x => C67 (w := w) (g := g) (d := rysD l) ⟨by omega, by omega⟩) (l := l) hl
    (repeat' first | (refine Owe.same ?_; first | refine Owe.o ?_ | refine Owe.mk ?_ ?_) | (refine Fork.same ?_; (first | refine fkD ?_ ?_ | refine fkN ?_ ?_ | refine fkM ?_ ?_) <;> intro h) | ((first | refine OpsL.same ?_ | refine OpsDL.same ?_); first | refine pK c1 rfl rfl ?_) | refine MvQ.stay ?_)
    (refine rqK rfl ?_; (repeat' first | exact rfl | (refine qS ?_; constructor)))
theorem C33 {s : Sc} : s.2.2.length ≤ 1000000 → PFD Try.prog 33 [scv s] (vi .i64 (scE s).2) := fun hl => by
  refine pi1 fn33 ?_
  (repeat' first | (refine Owe.same ?_; first | refine Owe.o ?_ | refine Owe.mk ?_ ?_) | (refine Fork.same ?_; (first | refine fkD ?_ ?_ | refine fkN ?_ ?_ | refine fkM ?_ ?_) <;> intro h) | ((first | refine OpsL.same ?_ | refine OpsDL.same ?_); first | refine pK (C50 hl) rfl rfl ?_) | refine MvQ.stay ?_)
  (refine rqK rfl ?_; (repeat' first | exact rfl | (refine qS ?_; constructor)))
theorem C72 {c : Pr} {w : Int} : ((0 ≤ c.2 ∧ c.2 ≤ 1000) ∧ (0 ≤ c.1 ∧ c.1 ≤ 1000) ∧ 0 ≤ w ∧ w ≤ 1000) → PFD Try.prog 72 [pr c, vi .i64 w] (vi .i64 (c.2 * w + c.1)) := fun ⟨h1, h2, h3⟩ => by
  have m : 0 ≤ c.2 * w ∧ c.2 * w ≤ 1000 * 1000 := ⟨Int.mul_nonneg h1.1 h3.1, Int.mul_le_mul h1.2 h3.2 h3.1 (by decide)⟩
  refine pi1 fn72 ?_
  (repeat' first | (refine Owe.same ?_; first | refine Owe.o ?_ | refine Owe.mk ?_ ?_) | (refine Fork.same ?_; (first | refine fkD ?_ ?_ | refine fkN ?_ ?_ | refine fkM ?_ ?_) <;> intro h) | refine MvQ.stay ?_)
  (refine rqK rfl ?_; (repeat' first | exact rfl | (refine qS ?_; constructor)))
def idxE (n : Int) : Int → List Int → Int
  | _, [] => -1
  | k, x :: l => if n = x then k else idxE n (k + 1) l
theorem idxE_drop (n : Int) (l : List Int) (k : Nat) (h : k < l.length) : idxE n k (l.drop k) = if n = l.getD k 0 then (k : Int) else idxE n ((k + 1 : Nat) : Int) (l.drop (k + 1)) := by
  have e : l.drop k = l.getD k 0 :: l.drop (k + 1) := by
    rw [List.getD_eq_getElem?_getD, List.getElem?_eq_getElem h]; exact List.drop_eq_getElem_cons h
  rw [e, idxE]; rfl
theorem idxE_ge (n : Int) : ∀ (l : List Int) (k : Int), 0 ≤ k → (0 ≤ idxE n k l ↔ n ∈ l)
  | [], k, _ => by simp [idxE]
  | x :: l, k, hk => by
    rw [idxE]
    split
    · rename_i h; subst h; simp [hk]
    · rename_i h; rw [idxE_ge n l (k + 1) (by omega), List.mem_cons]; simp [h]
theorem C54 {l : List Int} {n : Int} : l.length ≤ 1000000 → PFD Try.prog 54 [.c (ints l), vi .i64 n] (vi .i64 (idxE n 0 l)) := fun hl => by
  refine pi1 fn54 ?_
  (repeat' first | (refine Owe.same ?_; first | refine Owe.o ?_ | refine Owe.mk ?_ ?_) | (refine Fork.same ?_; (first | refine fkD ?_ ?_ | refine fkN ?_ ?_ | refine fkM ?_ ?_) <;> intro h) | refine MvQ.stay ?_)
  refine Sat.lp0 (fun k : Nat => [(8, vi .i64 k), (7, vi .i64 l.length), (0, .c (ints l)), (1, vi .i64 n)]) (fun k => k ≤ l.length ∧ idxE n 0 l = idxE n k (l.drop k)) (fun k => l.length - k) 0 ⟨Nat.zero_le _, rfl⟩ (by ((first | refine qen ?_ | refine qvs ?_ | refine qeq ?_ | refine qst ?_ | refine qv ?_ | refine qc ?_ | refine qe ?_ | refine qcs ?_ | skip); (repeat' first | exact rfl | (refine qS ?_; constructor)))) ?_
  intro k hk
  (repeat' first | (refine Owe.same ?_; first | refine Owe.o ?_ | refine Owe.mk ?_ ?_) | (refine Fork.same ?_; (first | refine fkD ?_ ?_ | refine fkN ?_ ?_ | refine fkM ?_ ?_) <;> intro h) | refine MvQ.stay ?_)
  · have e := idxE_drop n l k (by omega)
    have h : n = l.getD k 0 := h
    rw [if_pos h, ← hk.2] at e
    (refine rqK rfl ?_; (repeat' first | exact rfl | (refine qS ?_; constructor))); rw [e]
  · have e := idxE_drop n l k (by omega)
    have h : ¬ n = l.getD k 0 := h
    rw [if_neg h, ← hk.2] at e
    exact again0 (k + 1) ⟨by omega, e⟩ (by omega) (by ((first | refine qen ?_ | refine qvs ?_ | refine qeq ?_ | refine qst ?_ | refine qv ?_ | refine qc ?_ | refine qe ?_ | refine qcs ?_ | skip); (repeat' first | exact rfl | (refine qS ?_; constructor))))
  · have e : idxE n 0 l = -1 := by rw [hk.2, List.drop_of_length_le (by omega)]; rfl
    (refine rqK rfl ?_; (repeat' first | exact rfl | (refine qS ?_; constructor))); rw [e]
theorem C36 {l : List Int} {n : Int} : l.length ≤ 1000000 → PFD Try.prog 36 [.c (ints l), vi .i64 n] (vbl (decide (n ∈ l))) := fun hl => by
  refine pi1 fn36 ?_
  (repeat' first | (refine Owe.same ?_; first | refine Owe.o ?_ | refine Owe.mk ?_ ?_) | (refine Fork.same ?_; (first | refine fkD ?_ ?_ | refine fkN ?_ ?_ | refine fkM ?_ ?_) <;> intro h) | ((first | refine OpsL.same ?_ | refine OpsDL.same ?_); first | refine pK (C54 hl) rfl rfl ?_) | refine MvQ.stay ?_)
  (refine rqK rfl ?_; (repeat' first | exact rfl | (refine qS ?_; constructor)))
  exact decide_eq_decide.2 (idxE_ge n l 0 (Int.le_refl _))
end Go.Pw

set_option linter.unusedVariables false
set_option maxHeartbeats 2000000
set_option maxRecDepth 100000
namespace Go.Pw
open Go Go.Proofs
/-- moonpool/sonar.said -/
def lc55u : LCode :=
  (.seq (.region [⟨some 2, .box (.tmp 0), none⟩, ⟨some 3, .box (.tmp 1), none⟩, ⟨some 4, .mv (.const .nilFunc), none⟩]) (.seq (.region [⟨some 5, .mkfn 70 [(.tmp 2), (.tmp 3)],
    none⟩, ⟨some 4, .mv (.tmp 5), none⟩]) .ret))
theorem low55u : lowF Try.prog [] Try.f55 = some (6, lc55u.strip, [.tmp 4]) := by kernel_rfl
theorem fn55u : FnOk Try.prog 55 6 lc55u [.tmp 4] := ⟨Try.call55, [], _, Try.func55, low55u⟩
end Go.Pw

set_option linter.unusedSimpArgs false
set_option linter.unusedVariables false
namespace Go.Pw
set_option maxRecDepth 2000
open Go Go.Proofs A1 A2 A3 A4
/-- Both bits, as the program has them. -/
def orI (a b : Int) : Int := IntKind.i64.wrap ((BitVec.ofInt IntKind.i64.bits a ||| BitVec.ofInt IntKind.i64.bits b).toNat : Nat)
def stC (r : Ry) (c : Cel) : Int := if c = r.2.1 ∧ r.2.2 = true then 2 else 1
def cellN (w : Int) (c : Cel) : Nat := (c.2 * w + c.1).toNat
def updS (w : Int) (r : Ry) (out : List Int) (c : Cel) : List Int := out.set (cellN w c) (orI (out.getD (cellN w c) 0) (stC r c))
def stR (w : Int) (r : Ry) (out : List Int) : List Int := (crS r).foldl (updS w r) out
/-- The states after so many rays. -/
def stK (s : Sc) (wo : List Int) : Nat → List Int
  | 0 => List.replicate (s.1 * s.2.1).toNat 0
  | k + 1 => if (k : Int) ∈ wo then stK s wo k else stR s.1 (s.2.2.getD k ryd) (stK s wo k)
def stS (s : Sc) (wo : List Int) : List Int := stK s wo s.2.2.length
structure ScOk (s : Sc) : Prop where
  w : 1 ≤ s.1 ∧ s.1 ≤ 12
  h : 1 ≤ s.2.1 ∧ s.2.1 ≤ 12
  n : s.2.2.length ≤ 10
  r : ∀ i, i < s.2.2.length → ryOk (s.2.2.getD i ryd) s.1 s.2.1
/-- The states when so many cells of a ray are seen to. -/
def stJ (w : Int) (r : Ry) (out : List Int) (j : Nat) : List Int := ((crS r).take j).foldl (updS w r) out
theorem stJ_succ {w : Int} {r : Ry} {out : List Int} {j : Nat} (h : j < (crS r).length) : stJ w r out (j + 1) = updS w r (stJ w r out j) ((crS r).getD j (0, 0)) := by
  rw [stJ, stJ, List.take_add_one, List.foldl_append, List.getElem?_eq_getElem h, List.getD_eq_getElem?_getD, List.getElem?_eq_getElem h]; rfl
theorem stJ_all {w : Int} {r : Ry} {out : List Int} : stJ w r out (crS r).length = stR w r out := by rw [stJ, List.take_length]; rfl
theorem foldU_len {w : Int} {r : Ry} : ∀ (l : List Cel) (out : List Int), (l.foldl (updS w r) out).length = out.length
  | [], _ => rfl
  | c :: l, out => by rw [List.foldl_cons, foldU_len l]; simp [updS]
theorem stK_len {s : Sc} {wo : List Int} : ∀ k, (stK s wo k).length = (s.1 * s.2.1).toNat
  | 0 => by simp [stK]
  | k + 1 => by
    rw [stK]; split
    · exact stK_len k
    · rw [stR, foldU_len]; exact stK_len k
theorem crS_in {r : Ry} {w g : Int} (hO : ryOk r w g) {c : Cel} (hc : c ∈ crS r) : inG c w g := by
  obtain ⟨_, hx, hy⟩ := crS_mem.1 hc
  obtain ⟨h1, h2⟩ := hO
  simp only [inG, Ry.x0, Ry.y0, Ry.wn, Ry.hn, Ry.dx, Ry.dy, sz] at *
  omega
theorem stC_2 {r : Ry} {c : Cel} (h : (decide (c.1 = r.2.1.1) && decide (c.2 = r.2.1.2)) = true) (h2 : r.2.2 = true) : stC r c = 2 := by
  simp only [Bool.and_eq_true, decide_eq_true_eq] at h
  rw [stC, if_pos ⟨Prod.ext h.1 h.2, h2⟩]
theorem stC_1a {r : Ry} {c : Cel} (h : (decide (c.1 = r.2.1.1) && decide (c.2 = r.2.1.2)) = false) : stC r c = 1 := by
  rw [stC, if_neg]
  rintro ⟨rfl, _⟩
  simp at h
theorem stC_1b {r : Ry} {c : Cel} (h : r.2.2 = false) : stC r c = 1 := by
  rw [stC, if_neg]
  rintro ⟨_, h2⟩
  rw [h] at h2; cases h2
theorem cell_bd {c : Cel} {w g : Int} (hc : inG c w g) (hw : 1 ≤ w) : 0 ≤ c.2 * w + c.1 ∧ c.2 * w + c.1 < w * g := by
  simp only [inG] at hc
  have h1 : 0 ≤ c.2 * w := Int.mul_nonneg (by omega) (by omega)
  have h2 : c.2 * w ≤ (g - 1) * w := Int.mul_le_mul_of_nonneg_right (by omega) (by omega)
  rw [Int.sub_mul, Int.one_mul, Int.mul_comm g w] at h2
  omega
theorem C37 {s : Sc} {wo : List Int} : (ScOk s ∧ wo.length ≤ 1000000) → PFD Try.prog 37 [scv s, .c (ints wo)] (.c (ints (stS s wo))) := fun ⟨hO, hwo⟩ => by
  obtain ⟨w, g, l⟩ := s
  have hw := hO.w; have hh := hO.h; have hn := hO.n
  simp only at hw hh hn
  obtain ⟨S, hS⟩ : ∃ S, S = stS (w, g, l) wo := ⟨_, rfl⟩
  rw [← hS]
  have mwg : 1 ≤ w * g ∧ w * g ≤ 144 := by
    have h1 : (1 : Int) * 1 ≤ w * g := Int.mul_le_mul hw.1 hh.1 (by decide) (by omega)
    have h2 : w * g ≤ 12 * 12 := Int.mul_le_mul hw.2 hh.2 (by omega) (by decide)
    omega
  refine pi1 fn37 ?_
  (repeat' first | (refine Owe.same ?_; first | refine Owe.o ?_ | refine Owe.mk ?_ ?_) | (refine Fork.same ?_; (first | refine fkD ?_ ?_ | refine fkN ?_ ?_ | refine fkM ?_ ?_) <;> intro h) | refine MvQ.stay ?_)
  refine Sat.lp (fun k : Nat => ⟨[(18, vi .i64 k), (17, vi .i64 l.length), (16, .c (rys l)), (1, .c (ints wo)), (2, .c (.rp (scD (w, g, l)))), (5, .c (.bp 1 0))], [(1, .box [.ms 0 (stK (w, g, l) wo k).length]), (0, rowv 3 1 r1 0 (stK (w, g, l) wo k))], 2⟩)
    (fun k => k ≤ l.length) (fun k => l.length - k) 0 [0, 1] (Nat.zero_le _) ?_ ?_
  · (refine qis ?_ ?_ <;> (repeat' first | exact rfl | (refine qS ?_; constructor)))
    · simp [stK]
    · exact ⟨0, rfl, rfl⟩
  · intro k hk
    refine Fork.dec (fun hlt => ?_) (fun hlt => ?_)
    · have hlt : k < l.length := by omega
      have hr := hO.r k hlt
      simp only at hr
      (repeat' first | (refine Owe.same ?_; first | refine Owe.o ?_ | refine Owe.mk ?_ ?_) | (refine Fork.same ?_; (first | refine fkD ?_ ?_ | refine fkN ?_ ?_ | refine fkM ?_ ?_) <;> intro h) | ((first | refine OpsL.same ?_ | refine OpsDL.same ?_); first | refine pK C36 rfl rfl ?_) | refine MvQ.stay ?_)
      · have e : stK (w, g, l) wo (k + 1) = stK (w, g, l) wo k := by rw [stK, if_pos h]
        refine again (k + 1) [0, 1] hlt (by omega) ?_
        rw [e]
        (refine qis ?_ ?_ <;> (repeat' first | exact rfl | (refine qS ?_; constructor)))
      · have e : stK (w, g, l) wo (k + 1) = stR w (l.getD k ryd) (stK (w, g, l) wo k) := by rw [stK, if_neg h]
        (repeat' first | (refine Owe.same ?_; first | refine Owe.o ?_ | refine Owe.mk ?_ ?_) | (refine Fork.same ?_; (first | refine fkD ?_ ?_ | refine fkN ?_ ?_ | refine fkM ?_ ?_) <;> intro h) | refine MvQ.stay ?_)
        refine Ops.cs rfl rfl (CallS.of fn55u rfl ?_)
        (repeat' first | (refine Owe.same ?_; first | refine Owe.o ?_ | refine Owe.mk ?_ ?_) | (refine Fork.same ?_; (first | refine fkD ?_ ?_ | refine fkN ?_ ?_ | refine fkM ?_ ?_) <;> intro h) | refine MvQ.stay ?_)
        refine Sat.keep [1, 2, 5, 16, 17, 18, 29] ?_
        refine Sat.rf rfl rfl (CallS.of fn70 rfl ?_)
        (repeat' first | (refine Owe.same ?_; first | refine Owe.o ?_ | refine Owe.mk ?_ ?_) | (refine Fork.same ?_; (first | refine fkD ?_ ?_ | refine fkN ?_ ?_ | refine fkM ?_ ?_) <;> intro h) | refine MvQ.stay ?_)
        have hr12 : ryOk (l.getD k ryd) 12 12 := by simp only [ryOk, inG] at hr ⊢; omega
        have c44 := C71 hr12
        have hin : ∀ c ∈ crS (l.getD k ryd), inG c w g := fun c hc => crS_in hr hc
        have hlen := stK_len (s := (w, g, l)) (wo := wo) k
        have hcl : (crS (l.getD k ryd)).length ≤ 12 * 12 := by
          have h1 := wn_le hr12
          have h2 := hn_le hr12
          exact Nat.le_trans crS_len (Nat.mul_le_mul (by omega) (by omega))
        (repeat' first | (refine Owe.same ?_; first | refine Owe.o ?_ | refine Owe.mk ?_ ?_) | (refine Fork.same ?_; (first | refine fkD ?_ ?_ | refine fkN ?_ ?_ | refine fkM ?_ ?_) <;> intro h) | ((first | refine OpsL.same ?_ | refine OpsDL.same ?_); first | refine pK c44 rfl rfl ?_) | refine MvQ.stay ?_)
        refine Sat.lp (fun j : Nat => ⟨[(10, vi .i64 j), (9, vi .i64 (crS (l.getD k ryd)).length), (8, .c (prs (crS (l.getD k ryd)))), (0, .c (.yd 5)), (1, .c (.bp 3 0)), (2, .c (.bp 4 0))],
            [(5, .lp [(1, .c (ints wo)), (2, .c (.rp (scD (w, g, l)))), (5, .c (.bp 1 0)), (16, .c (rys l)), (17, vi .i64 l.length), (18, vi .i64 k), (29, .c (.fn 70 [3, 4]))] .ready none (RR Try.prog 42 [30] ra37 rb37)),
              (4, .box [int w]), (3, .box [int (l.getD k ryd).1.1, int (l.getD k ryd).1.2, int (l.getD k ryd).2.1.1, int (l.getD k ryd).2.1.2, .d (.v (.bool (l.getD k ryd).2.2))]),
              (1, .box [.ms 0 (stJ w (l.getD k ryd) (stK (w, g, l) wo k) j).length]), (0, rowv 3 1 r1 0 (stJ w (l.getD k ryd) (stK (w, g, l) wo k) j))], 6⟩)
          (fun j => j ≤ (crS (l.getD k ryd)).length) (fun j => (crS (l.getD k ryd)).length - j) 0 [] (Nat.zero_le _) ?_ ?_
        · (refine qis ?_ ?_ <;> (repeat' first | exact rfl | (refine qS ?_; constructor)))
        · intro j hj
          refine Fork.dec (fun hlt => ?_) (fun hlt => ?_)
          · have hlt : j < (crS (l.getD k ryd)).length := by omega
            have hc : inG ((crS (l.getD k ryd)).getD j (0, 0)) w g := hin _ (getD_mem (0, 0) hlt)
            have mc := cell_bd hc hw.1
            have hjl : ∀ j, (stJ w (l.getD k ryd) (stK (w, g, l) wo k) j).length = (w * g).toNat := fun j => by rw [stJ, foldU_len]; exact hlen
            have hj1 := hjl j
            have hu := stJ_succ (w := w) (out := stK (w, g, l) wo k) hlt
            simp only [inG] at hc
            (repeat' first | (refine Owe.same ?_; first | refine Owe.o ?_ | refine Owe.mk ?_ ?_) | (refine Fork.same ?_; (first | refine fkD ?_ ?_ | refine fkN ?_ ?_ | refine fkM ?_ ?_) <;> intro h) | ((first | refine OpsL.same ?_ | refine OpsDL.same ?_); first | refine pK C72 rfl rfl ?_) | refine MvQ.stay ?_)
            · rename_i h1
              have hst : stC (l.getD k ryd) ((crS (l.getD k ryd)).getD j (0, 0)) = 2 := stC_2 h1 h
              refine Ops.yd rfl rfl rfl rfl rfl ?_
              (repeat' first | (refine Owe.same ?_; first | refine Owe.o ?_ | refine Owe.mk ?_ ?_) | (refine Fork.same ?_; (first | refine fkD ?_ ?_ | refine fkN ?_ ?_ | refine fkM ?_ ?_) <;> intro h) | refine MvQ.stay ?_)
              refine And.intro rfl (Exists.intro _ (And.intro rfl ?_))
              (repeat' first | (refine Owe.same ?_; first | refine Owe.o ?_ | refine Owe.mk ?_ ?_) | (refine Fork.same ?_; (first | refine fkD ?_ ?_ | refine fkN ?_ ?_ | refine fkM ?_ ?_) <;> intro h) | refine MvQ.stay ?_)
              refine Exists.intro _ (Exists.intro _ (Exists.intro _ (And.intro rfl ?_)))
              (repeat' first | (refine Owe.same ?_; first | refine Owe.o ?_ | refine Owe.mk ?_ ?_) | (refine Fork.same ?_; (first | refine fkD ?_ ?_ | refine fkN ?_ ?_ | refine fkM ?_ ?_) <;> intro h) | refine MvQ.stay ?_)
              refine again (j + 1) [] hlt (by omega) ?_
              (refine qis ?_ ?_ <;> (repeat' first | exact rfl | (refine qS ?_; constructor)))
              · rw [hjl, hjl]
              · refine ⟨orI ((stJ w (l.getD k ryd) (stK (w, g, l) wo k) j).getD (cellN w ((crS (l.getD k ryd)).getD j (0, 0))) 0) 2, rfl, ?_⟩
                rw [hu, updS, hst]; rfl
            · have hst : stC (l.getD k ryd) ((crS (l.getD k ryd)).getD j (0, 0)) = 1 := stC_1b h
              refine Ops.yd rfl rfl rfl rfl rfl ?_
              (repeat' first | (refine Owe.same ?_; first | refine Owe.o ?_ | refine Owe.mk ?_ ?_) | (refine Fork.same ?_; (first | refine fkD ?_ ?_ | refine fkN ?_ ?_ | refine fkM ?_ ?_) <;> intro h) | refine MvQ.stay ?_)
              refine And.intro rfl (Exists.intro _ (And.intro rfl ?_))
              (repeat' first | (refine Owe.same ?_; first | refine Owe.o ?_ | refine Owe.mk ?_ ?_) | (refine Fork.same ?_; (first | refine fkD ?_ ?_ | refine fkN ?_ ?_ | refine fkM ?_ ?_) <;> intro h) | refine MvQ.stay ?_)
              refine Exists.intro _ (Exists.intro _ (Exists.intro _ (And.intro rfl ?_)))
              (repeat' first | (refine Owe.same ?_; first | refine Owe.o ?_ | refine Owe.mk ?_ ?_) | (refine Fork.same ?_; (first | refine fkD ?_ ?_ | refine fkN ?_ ?_ | refine fkM ?_ ?_) <;> intro h) | refine MvQ.stay ?_)
              refine again (j + 1) [] hlt (by omega) ?_
              (refine qis ?_ ?_ <;> (repeat' first | exact rfl | (refine qS ?_; constructor)))
              · rw [hjl, hjl]
              · refine ⟨orI ((stJ w (l.getD k ryd) (stK (w, g, l) wo k) j).getD (cellN w ((crS (l.getD k ryd)).getD j (0, 0))) 0) 1, rfl, ?_⟩
                rw [hu, updS, hst]; rfl
            · have hst : stC (l.getD k ryd) ((crS (l.getD k ryd)).getD j (0, 0)) = 1 := stC_1a h
              refine Ops.yd rfl rfl rfl rfl rfl ?_
              (repeat' first | (refine Owe.same ?_; first | refine Owe.o ?_ | refine Owe.mk ?_ ?_) | (refine Fork.same ?_; (first | refine fkD ?_ ?_ | refine fkN ?_ ?_ | refine fkM ?_ ?_) <;> intro h) | refine MvQ.stay ?_)
              refine And.intro rfl (Exists.intro _ (And.intro rfl ?_))
              (repeat' first | (refine Owe.same ?_; first | refine Owe.o ?_ | refine Owe.mk ?_ ?_) | (refine Fork.same ?_; (first | refine fkD ?_ ?_ | refine fkN ?_ ?_ | refine fkM ?_ ?_) <;> intro h) | refine MvQ.stay ?_)
              refine Exists.intro _ (Exists.intro _ (Exists.intro _ (And.intro rfl ?_)))
              (repeat' first | (refine Owe.same ?_; first | refine Owe.o ?_ | refine Owe.mk ?_ ?_) | (refine Fork.same ?_; (first | refine fkD ?_ ?_ | refine fkN ?_ ?_ | refine fkM ?_ ?_) <;> intro h) | refine MvQ.stay ?_)
              refine again (j + 1) [] hlt (by omega) ?_
              (refine qis ?_ ?_ <;> (repeat' first | exact rfl | (refine qS ?_; constructor)))
              · rw [hjl, hjl]
              · refine ⟨orI ((stJ w (l.getD k ryd) (stK (w, g, l) wo k) j).getD (cellN w ((crS (l.getD k ryd)).getD j (0, 0))) 0) 1, rfl, ?_⟩
                rw [hu, updS, hst]; rfl
          · (repeat' first | (refine Owe.same ?_; first | refine Owe.o ?_ | refine Owe.mk ?_ ?_) | (refine Fork.same ?_; (first | refine fkD ?_ ?_ | refine fkN ?_ ?_ | refine fkM ?_ ?_) <;> intro h) | refine MvQ.stay ?_)
            have : j = (crS (l.getD k ryd)).length := by omega
            subst this
            refine again (k + 1) [0, 1] (by omega) (by omega) ?_
            simp only [e, ← stJ_all]
            (refine qis ?_ ?_ <;> (repeat' first | exact rfl | (refine qS ?_; constructor)))
    · (repeat' first | (refine Owe.same ?_; first | refine Owe.o ?_ | refine Owe.mk ?_ ?_) | (refine Fork.same ?_; (first | refine fkD ?_ ?_ | refine fkN ?_ ?_ | refine fkM ?_ ?_) <;> intro h) | refine MvQ.stay ?_)
      have : k = l.length := by omega
      subst this
      have e : S = stK (w, g, l) wo l.length := hS
      subst e
      refine rqF 0 _ rfl rfl rfl ?_; (repeat' first | exact rfl | (refine qS ?_; constructor))
end Go.Pw

set_option linter.unusedSimpArgs false
set_option linter.unusedVariables false
namespace Go.Pw
set_option maxRecDepth 2000
open Go Go.Proofs A1 A2 A3 A4
theorem scE_ok {s : Sc} : (scE s).2 = 0 ↔ gridE s.1 s.2.1 s.2.2.length = 0 ∧ ∀ r ∈ s.2.2, ryOk r s.1 s.2.1 := by
  rw [scE]
  split
  · rename_i h
    rw [eachE_ok]
    constructor
    · intro h1; exact ⟨h, fun r hr => (unl0 (by decide)).1 (h1 r hr)⟩
    · intro h1 r hr; exact (unl0 (by decide)).2 (h1.2 r hr)
  · rename_i h
    constructor
    · intro h1; exact absurd h1 h
    · intro h1; exact absurd h1.1 h
theorem scE_sc {s : Sc} (h : (scE s).2 = 0) : ScOk s := by
  obtain ⟨h1, h2⟩ := scE_ok.1 h
  have := gridE_ok.1 h1
  exact ⟨this.1.1, this.1.2, by omega, fun i hi => h2 _ (getD_mem _ hi)⟩
def odC (s : Sc) (t : List Int) : Int × Bool := ((t.length : Int), !decide ((3 : Int) ∈ stS s t))
theorem C35 {s : Sc} {t : List Int} : (ScOk s ∧ t.length ≤ 1000000) → PFD Try.prog 35 [.c (ints t), .c (.rp (scD s))] (.tup [vi .i64 (odC s t).1, vbl (odC s t).2]) := fun ⟨hO, ht⟩ => by
  have c71 := C37 (s := s) (wo := t) ⟨hO, ht⟩
  have hl : (stS s t).length ≤ 144 := by
    rw [stS, stK_len]
    have h2 : s.1 * s.2.1 ≤ 12 * 12 := Int.mul_le_mul hO.w.2 hO.h.2 (by have := hO.h; omega) (by decide)
    omega
  rw [odC]
  generalize stS s t = S at *
  refine pi2 fn35 ?_
  (repeat' first | (refine Owe.same ?_; first | refine Owe.o ?_ | refine Owe.mk ?_ ?_) | (refine Fork.same ?_; (first | refine fkD ?_ ?_ | refine fkN ?_ ?_ | refine fkM ?_ ?_) <;> intro h) | ((first | refine OpsL.same ?_ | refine OpsDL.same ?_); first | refine pK c71 rfl rfl ?_ | refine pK C36 rfl rfl ?_) | refine MvQ.stay ?_)
  (refine rqK rfl ?_; (repeat' first | exact rfl | (refine qS ?_; constructor)))
theorem C17 {s : Sc} : s.2.2.length ≤ 1000000 → PFD Try.prog 17 [scv s] (.tup [.c (ints (if (scE s).2 = 0 then (bestK (odC s) s.2.2.length (2 ^ s.2.2.length)).l else [])), vi .i64 (scE s).2]) := fun hl => by
  by_cases h0 : (scE s).2 = 0
  · rw [if_pos h0]
    have hO := scE_sc h0
    have c68 := C34 (g := 35) (rows := [scD s]) (c := odC s) (n := s.2.2.length) (fun t ht _ => C35 ⟨hO, ht⟩) (by have := hO.n; omega)
    generalize bestK (odC s) s.2.2.length (2 ^ s.2.2.length) = B at *
    refine pi2 fn17 ?_
    (repeat' first | (refine Owe.same ?_; first | refine Owe.o ?_ | refine Owe.mk ?_ ?_) | (refine Fork.same ?_; (first | refine fkD ?_ ?_ | refine fkN ?_ ?_ | refine fkM ?_ ?_) <;> intro h) | ((first | refine OpsL.same ?_ | refine OpsDL.same ?_); first | refine pK (C33 hl) rfl rfl ?_ | refine pK c68 rfl rfl ?_) | refine MvQ.stay ?_)
    · exact absurd h0 h
    · (refine rqK rfl ?_; (repeat' first | exact rfl | (refine qS ?_; constructor)))
      exact h0.symm
  · rw [if_neg h0]
    refine pi2 fn17 ?_
    (repeat' first | (refine Owe.same ?_; first | refine Owe.o ?_ | refine Owe.mk ?_ ?_) | (refine Fork.same ?_; (first | refine fkD ?_ ?_ | refine fkN ?_ ?_ | refine fkM ?_ ?_) <;> intro h) | ((first | refine OpsL.same ?_ | refine OpsDL.same ?_); first | refine pK (C33 hl) rfl rfl ?_) | refine MvQ.stay ?_)
    · (refine rqK rfl ?_; (repeat' first | exact rfl | (refine qS ?_; constructor)))
    · exact absurd h h0
end Go.Pw

set_option linter.unusedSimpArgs false
set_option linter.unusedVariables false
namespace Go.Pw
set_option maxRecDepth 2000
open Go Go.Proofs A1 A2 A3 A4
abbrev Vw := Ry × Int
abbrev vwd : Vw := (ryd, 0)
abbrev r6 (v : Vw) : List D := [dI v.1.1.1, dI v.1.1.2, dI v.1.2.1.1, dI v.1.2.1.2, .v (.bool v.1.2.2), dI v.2]
abbrev Se := Int × Int × List Vw × List Int
end Go.Pw

set_option linter.unusedSimpArgs false
set_option linter.unusedVariables false
namespace Go.Pw
set_option maxRecDepth 2000
open Go Go.Proofs A1 A2 A3 A4
/-- Ascending numbers. -/
abbrev srt (l : List Int) : Prop := ∀ i j, i < j → j < l.length → l.getD i 0 < l.getD j 0
end Go.Pw

set_option linter.unusedSimpArgs false
set_option linter.unusedVariables false
namespace Go.Pw
set_option maxRecDepth 2000
open Go Go.Proofs A1 A2 A3 A4
structure SeOk (x : Se) : Prop where
  w : 1 ≤ x.1 ∧ x.1 ≤ 12
  h : 1 ≤ x.2.1 ∧ x.2.1 ≤ 12
  n : x.2.2.1.length ≤ 10
  v : ∀ i, i < x.2.2.1.length → ryOk (x.2.2.1.getD i vwd).1 x.1 x.2.1 ∧ 0 ≤ (x.2.2.1.getD i vwd).2 ∧ (x.2.2.1.getD i vwd).2 ≤ 1000
  m : ∀ y ∈ x.2.2.2, 0 ≤ y ∧ y ≤ x.1 * x.2.1 - 1
  s : srt x.2.2.2
theorem srt_of {m : List Int} (h : m.Pairwise (· < ·)) : srt m := fun i j hij hj => by
  have := List.pairwise_iff_getElem.1 h i j (by omega) hj hij
  simpa [List.getD_eq_getElem?_getD, List.getElem?_eq_getElem, hj, show i < m.length by omega] using this
theorem of_srt {m : List Int} (h : srt m) : m.Pairwise (· < ·) := List.pairwise_iff_getElem.2 fun i j hi hj hij => by
  have := h i j hij hj
  simpa [List.getD_eq_getElem?_getD, List.getElem?_eq_getElem, hj, hi] using this
theorem srt_len : ∀ {m : List Int} {lo hi : Int}, lo ≤ hi + 1 → m.Pairwise (· < ·) → (∀ y ∈ m, lo ≤ y ∧ y ≤ hi) → (m.length : Int) ≤ hi - lo + 1
  | [], lo, hi, hle, _, _ => by simp; omega
  | y :: m, lo, hi, hle, h, hb => by
    obtain ⟨h1, h2⟩ := List.pairwise_cons.1 h
    have h3 := hb y (List.mem_cons_self ..)
    have := srt_len (m := m) (lo := y + 1) (hi := hi) (by omega) h2 fun z hz => ⟨by have := h1 z hz; omega, (hb z (List.mem_cons_of_mem _ hz)).2⟩
    simp only [List.length_cons]; omega
theorem SeOk.wg {x : Se} (h : SeOk x) : 1 ≤ x.1 * x.2.1 ∧ x.1 * x.2.1 ≤ 144 := by
  have h1 : (1 : Int) * 1 ≤ x.1 * x.2.1 := Int.mul_le_mul h.w.1 h.h.1 (by decide) (by have := h.w; omega)
  have h2 : x.1 * x.2.1 ≤ 12 * 12 := Int.mul_le_mul h.w.2 h.h.2 (by have := h.h; omega) (by decide)
  omega
theorem SeOk.len {x : Se} (h : SeOk x) : x.2.2.2.length ≤ 144 := by
  have := srt_len (lo := 0) (hi := x.1 * x.2.1 - 1) (by have := h.wg; omega) (of_srt h.s) h.m
  have := h.wg
  omega
end Go.Pw

set_option linter.unusedVariables false
namespace Go.Pw
open Go Go.RowKit
theorem arg_trs {v : V} (h : Arg false [.sl [.int .i64, .int .i64, .int .i64]] v) : ∃ l : List (Int × Int × Int), RI v (.c (trs l)) ∧ l.length ≤ maxLen ∧ ∀ a ∈ l, i64 a.1 ∧ i64 a.2.1 ∧ i64 a.2.2 := by
  obtain ⟨d, rfl, h1⟩ := arg_c h
  obtain ⟨l, h2, h3⟩ := okD_list ((0, 0, 0) : Int × Int × Int) (fun ds => row3) h1
  exact ⟨l, VEq.ri (.c _ _ h2), h3⟩
end Go.Pw

set_option linter.unusedSimpArgs false
set_option linter.unusedVariables false
namespace Go.Pw
set_option maxRecDepth 2000
open Go Go.Proofs A1 A2 A3 A4
theorem fst_c {a : Int} {l : List Int} (h : a ≠ 0) : fstE (a :: l) = a := by rw [fstE, if_neg h]
theorem fst_z {l : List Int} : fstE (0 :: l) = fstE l := by rw [fstE, if_pos rfl]
abbrev exD : List Dv := [(1, 2, 3), (2, 1, 3), (4, 2, 2)]
abbrev exS : Sc := (4, 2, [((0, 0), (3, 1), true), ((0, 1), (3, 1), false)])
theorem C16 : PFD Try.prog 16 [] (.c (trs exD)) := by
  refine pi1 fn16 ?_
  (repeat' first | (refine Owe.same ?_; first | refine Owe.o ?_ | refine Owe.mk ?_ ?_) | (refine Fork.same ?_; (first | refine fkD ?_ ?_ | refine fkN ?_ ?_ | refine fkM ?_ ?_) <;> intro h) | refine MvQ.stay ?_)
  (refine rqK rfl ?_; (repeat' first | exact rfl | (refine qS ?_; constructor)))
theorem C38 {a b c d : Int} {h : Bool} : PFD Try.prog 38 [vi .i64 a, vi .i64 b, vi .i64 c, vi .i64 d, vbl h] (ryv ((a, b), (c, d), h)) := by
  refine pi1 fn38 ?_
  (repeat' first | (refine Owe.same ?_; first | refine Owe.o ?_ | refine Owe.mk ?_ ?_) | (refine Fork.same ?_; (first | refine fkD ?_ ?_ | refine fkN ?_ ?_ | refine fkM ?_ ?_) <;> intro h) | refine MvQ.stay ?_)
  (refine rqK rfl ?_; (repeat' first | exact rfl | (refine qS ?_; constructor)))
theorem C18 : PFD Try.prog 18 [] (scv exS) := by
  refine pi1 fn18 ?_
  (repeat' first | (refine Owe.same ?_; first | refine Owe.o ?_ | refine Owe.mk ?_ ?_) | (refine Fork.same ?_; (first | refine fkD ?_ ?_ | refine fkN ?_ ?_ | refine fkM ?_ ?_) <;> intro h) | ((first | refine OpsL.same ?_ | refine OpsDL.same ?_); first | refine pK C38 rfl rfl ?_) | refine MvQ.stay ?_)
  (refine rqK rfl ?_; (repeat' first | exact rfl | (refine qS ?_; constructor)))
theorem C19 {a b : Tn} : (a.2.length ≤ 1000000) → PFD Try.prog 19 [tv a, tv b] (vbl (decide (a = b))) := fun h => by
  obtain ⟨a1, a2⟩ := a
  obtain ⟨b1, b2⟩ := b
  refine pi1 fn19 ?_
  (repeat' first | (refine Owe.same ?_; first | refine Owe.o ?_ | refine Owe.mk ?_ ?_) | (refine Fork.same ?_; (first | refine fkD ?_ ?_ | refine fkN ?_ ?_ | refine fkM ?_ ?_) <;> intro h) | ((first | refine OpsL.same ?_ | refine OpsDL.same ?_); first | refine pK C20 rfl rfl ?_) | refine MvQ.stay ?_)
  · have h : a1 = b1 := h
    subst h
    (refine rqK rfl ?_; (repeat' first | exact rfl | (refine qS ?_; constructor)))
    simp
  · have h : ¬ a1 = b1 := h
    (refine rqK rfl ?_; (repeat' first | exact rfl | (refine qS ?_; constructor)))
    simp [h]
end Go.Pw

set_option linter.unusedSimpArgs false
set_option linter.unusedVariables false
namespace Go.Pw
set_option maxRecDepth 2000
open Go Go.Proofs A1 A2 A3 A4
end Go.Pw

set_option linter.unusedSimpArgs false
set_option linter.unusedVariables false
namespace Go.Pw
set_option maxRecDepth 2000
open Go Go.Proofs A1 A2 A3 A4
end Go.Pw

set_option linter.unusedSimpArgs false
set_option linter.unusedVariables false
namespace Go.Pw
set_option maxRecDepth 2000
open Go Go.Proofs A1 A2 A3 A4
theorem fstE_3 {a b c : Int} : fstE [a, b, c] = if a = 0 then (if b = 0 then (if c = 0 then 0 else c) else b) else a := by
  simp only [fstE]
theorem cmpI_0 {a b : Int} : cmpI a b = 0 ↔ a = b := by rw [cmpI]; split <;> (try split) <;> omega
theorem cmpI_lt {a b : Int} : cmpI a b < 0 ↔ a < b := by rw [cmpI]; split <;> (try split) <;> omega
theorem best_p {c : List Int → Int × Bool} {n : Nat} : ∀ b, (∀ x, x < b → (c (subL n x)).2 = true → (bestK c n b).ok = true ∧ (bestK c n b).p ≤ (c (subL n x)).1) ∧
    ((bestK c n b).ok = true → ∃ x, x < b ∧ (bestK c n b).l = subL n x ∧ (bestK c n b).p = (c (subL n x)).1 ∧ (c (subL n x)).2 = true)
  | 0 => ⟨fun x h => by omega, fun h => by simp [bestK] at h⟩
  | b + 1 => by
    obtain ⟨h1, h2⟩ := best_p (c := c) (n := n) b
    simp only [bestK]
    by_cases hc : (c (subL n b)).2 = true ∧ ((bestK c n b).ok = false ∨ fstE [cmpI (c (subL n b)).1 (bestK c n b).p, cmpI (subL n b).length (bestK c n b).l.length, cmpL (subL n b) (bestK c n b).l] < 0)
    · rw [if_pos hc]
      refine ⟨fun x hx hxc => ⟨rfl, ?_⟩, fun _ => ⟨b, Nat.lt_succ_self _, rfl, rfl, hc.1⟩⟩
      rcases Nat.lt_succ_iff_lt_or_eq.1 hx with hx | rfl
      · obtain ⟨ho, hp⟩ := h1 x hx hxc
        rcases hc.2 with h3 | h3
        · rw [ho] at h3; cases h3
        · rw [fstE_3] at h3
          have : (c (subL n b)).1 ≤ (bestK c n b).p := by
            split at h3
            · rename_i h4; rw [cmpI_0] at h4; omega
            · rw [cmpI_lt] at h3; omega
          simp only; omega
      · exact Int.le_refl _
    · rw [if_neg hc]
      refine ⟨fun x hx hxc => ?_, fun h => ?_⟩
      · rcases Nat.lt_succ_iff_lt_or_eq.1 hx with hx | rfl
        · exact h1 x hx hxc
        · have ho : (bestK c n x).ok = true := by
            cases h : (bestK c n x).ok
            · exact absurd ⟨hxc, .inl h⟩ hc
            · rfl
          refine ⟨ho, Int.not_lt.1 fun hlt => hc ⟨hxc, .inr ?_⟩⟩
          rw [fst_c (by rw [ne_eq, cmpI_0]; omega), cmpI_lt]; exact hlt
      · obtain ⟨x, hx, h3⟩ := h2 h
        exact ⟨x, by omega, h3⟩
end Go.Pw

set_option linter.unusedSimpArgs false
set_option linter.unusedVariables false
namespace Go.Pw
set_option maxRecDepth 2000
open Go Go.Proofs A1 A2 A3 A4
theorem fltL_asc {p : Nat → Bool} {n : Nat} : (fltL p n).Pairwise (· < ·) := by
  rw [fltL, List.pairwise_map]
  refine List.Pairwise.filter _ ?_
  exact List.pairwise_lt_range.imp fun h => Int.ofNat_lt.2 h
end Go.Pw

set_option linter.unusedSimpArgs false
set_option linter.unusedVariables false
namespace Go.Pw
set_option maxRecDepth 2000
open Go Go.Proofs A1 A2 A3 A4
theorem C12 {l : List Dv} : l.length ≤ 1000000 → PFD Try.prog 12 [.c (trs l)] (.c (trs l)) := fun h => by
  refine pi1 fn12 ?_
  (repeat' first | (refine Owe.same ?_; first | refine Owe.o ?_ | refine Owe.mk ?_ ?_) | (refine Fork.same ?_; (first | refine fkD ?_ ?_ | refine fkN ?_ ?_ | refine fkM ?_ ?_) <;> intro h) | refine MvQ.stay ?_)
  (refine rqK rfl ?_; (repeat' first | exact rfl | (refine qS ?_; constructor)))
theorem C31 {n : Int} : PFD Try.prog 31 [vi .i64 n] (vi .i64 (cyE n)) := by
  refine pi1 fn31 ?_
  (repeat' first | (refine Owe.same ?_; first | refine Owe.o ?_ | refine Owe.mk ?_ ?_) | (refine Fork.same ?_; (first | refine fkD ?_ ?_ | refine fkN ?_ ?_ | refine fkM ?_ ?_) <;> intro h) | ((first | refine OpsL.same ?_ | refine OpsDL.same ?_); first | refine pK C6 rfl rfl ?_) | refine MvQ.stay ?_)
  · (refine rqK rfl ?_; (repeat' first | exact rfl | (refine qS ?_; constructor))); rw [cyE, unl, decide_eq_false h]; rfl
  · (refine rqK rfl ?_; (repeat' first | exact rfl | (refine qS ?_; constructor))); rw [cyE, unl, decide_eq_true h]; rfl
theorem C32 {n : Int} : (-4611686018427387904 ≤ n ∧ n ≤ 4611686018427387904) → PFD Try.prog 32 [vi .i64 n] (vi .i64 (max n (-n))) := fun h => by
  refine pi1 fn32 ?_
  (repeat' first | (refine Owe.same ?_; first | refine Owe.o ?_ | refine Owe.mk ?_ ?_) | (refine Fork.same ?_; (first | refine fkD ?_ ?_ | refine fkN ?_ ?_ | refine fkM ?_ ?_) <;> intro h) | refine MvQ.stay ?_)
  (refine rqK rfl ?_; (repeat' first | exact rfl | (refine qS ?_; constructor)))
theorem C15 {a b : Dv} : (dvOk a ∧ dvOk b) → PFD Try.prog 15 [tr a, tr b] (vbl (dist a b)) := fun ⟨ha, hb⟩ => by
  refine pi1 fn15 ?_
  (repeat' first | (refine Owe.same ?_; first | refine Owe.o ?_ | refine Owe.mk ?_ ?_) | (refine Fork.same ?_; (first | refine fkD ?_ ?_ | refine fkN ?_ ?_ | refine fkM ?_ ?_) <;> intro h) | ((first | refine OpsL.same ?_ | refine OpsDL.same ?_); first | refine pK C32 rfl rfl ?_) | refine MvQ.stay ?_)
  (refine rqK rfl ?_; (repeat' first | exact rfl | (refine qS ?_; constructor)))
theorem C14 {d : Dv} : dvOk d → PFD Try.prog 14 [tr d] (vi .i64 (win d)) := fun h => by
  refine pi1 fn14 ?_
  (repeat' first | (refine Owe.same ?_; first | refine Owe.o ?_ | refine Owe.mk ?_ ?_) | (refine Fork.same ?_; (first | refine fkD ?_ ?_ | refine fkN ?_ ?_ | refine fkM ?_ ?_) <;> intro h) | refine MvQ.stay ?_)
  (refine rqK rfl ?_; (repeat' first | exact rfl | (refine qS ?_; constructor)))
/-- A tick lies in a window. -/
def inW (d : Dv) (s c t : Int) : Bool := decide ((t - s) % c < win d)
theorem emod_cs {x c : Int} (hc : 0 < c) (h1 : -c < x) (h2 : x < 2 * c) : x % c = if x < 0 then x + c else if x < c then x else x - c := by
  split
  · rw [← Int.add_emod_right, Int.emod_eq_of_lt (by omega) (by omega)]
  · split
    · exact Int.emod_eq_of_lt (by omega) (by omega)
    · rw [← Int.sub_emod_right, Int.emod_eq_of_lt (by omega) (by omega)]
/-- The windows have a common tick where the program says so. -/
theorem mtB_iff {a b : Dv} {s t c : Int} (ha : dvOk a) (hb : dvOk b) (hc : 0 < c ∧ c ≤ 40) (hs : 0 ≤ s ∧ s < c) (ht : 0 ≤ t ∧ t < c) : mtB a b s t c = true ↔ ∃ n : Nat, (n : Int) < c ∧ inW a s c n = true ∧ inW b t c n = true := by
  obtain ⟨_, ha1, ha2⟩ := ha
  obtain ⟨_, hb1, hb2⟩ := hb
  have hwa : 1 ≤ win a := by show 1 ≤ a.2.1 + a.2.2; omega
  have hwb : 1 ≤ win b := by show 1 ≤ b.2.1 + b.2.2; omega
  have e1 := emod_cs (x := t - s + c) (c := c) hc.1 (by omega) (by omega)
  simp only [mtB, inW, Bool.or_eq_true, decide_eq_true_eq]
  generalize win a = wa at *
  generalize win b = wb at *
  have e2 : ∀ u, 0 ≤ u → u < c → (c - u) % c = if u = 0 then 0 else c - u := fun u h1 h2 => by
    split
    · subst u; rw [Int.sub_zero, Int.emod_self]
    · exact Int.emod_eq_of_lt (by omega) (by omega)
  have hd : 0 ≤ (t - s + c) % c ∧ (t - s + c) % c < c := ⟨Int.emod_nonneg _ (by omega), Int.emod_lt_of_pos _ hc.1⟩
  rw [e2 _ hd.1 hd.2]
  generalize (t - s + c) % c = d at *
  have e3 : ∀ (v : Int) (n : Nat), 0 ≤ v → v < c → (n : Int) < c → ((n : Int) - v) % c = if (n : Int) < v then (n : Int) - v + c else n - v := fun v n h1 h2 h3 => by
    rw [emod_cs hc.1 (by omega) (by omega)]
    by_cases h : (n : Int) < v
    · rw [if_pos (show (n : Int) - v < 0 by omega), if_pos h]
    · rw [if_neg (show ¬ (n : Int) - v < 0 by omega), if_pos (show (n : Int) - v < c by omega), if_neg h]
  constructor
  · intro h
    rcases h with h | h
    · refine ⟨t.toNat, by omega, ?_, ?_⟩
      · rw [e3 s _ hs.1 hs.2 (by omega)]; split at e1 <;> split <;> (try split at e1) <;> omega
      · rw [e3 t _ ht.1 ht.2 (by omega), if_neg (by omega)]; omega
    · refine ⟨s.toNat, by omega, ?_, ?_⟩
      · rw [e3 s _ hs.1 hs.2 (by omega), if_neg (by omega)]; omega
      · rw [e3 t _ ht.1 ht.2 (by omega)]; split at h <;> split at e1 <;> (try split at e1) <;> split <;> omega
  · rintro ⟨n, hn, h1, h2⟩
    rw [e3 s _ hs.1 hs.2 hn] at h1
    rw [e3 t _ ht.1 ht.2 hn] at h2
    split at e1 <;> (try split at e1) <;> split at h1 <;> split at h2 <;> split <;> omega
end Go.Pw

set_option linter.unusedSimpArgs false
set_option linter.unusedVariables false
namespace Go.Pw
set_option maxRecDepth 2000
open Go Go.Proofs A1 A2 A3 A4
def fstK (f : Nat → Bool) (n : Nat) : Nat → Option Nat
  | 0 => none
  | r + 1 => if f (n - (r + 1)) = true then some (n - (r + 1)) else fstK f n r
/-- The first pair, in so many last rows. -/
def prR (f : Nat → Nat → Bool) (n : Nat) : Nat → Option (Nat × Nat)
  | 0 => none
  | r + 1 => match fstK (f (n - (r + 1))) n (r + 1) with
    | some k => some (n - (r + 1), k)
    | none => prR f n r
abbrev prB (l : List Dv) (t : Tn) : Option (Nat × Nat) := prR (fun i k => blB l t.2 i k t.1) l.length l.length
/-- Turns that are valid for devices. -/
structure TnOk (l : List Dv) (t : Tn) : Prop where
  d : DvOk l
  c : 0 < t.1 ∧ t.1 ≤ 40
  n : t.2.length = l.length
  s : stOk t.2 t.1
theorem blB_ii {l : List Dv} {st : List Int} {i : Nat} {c : Int} : blB l st i i c = decide (c < win (l.getD i (0, 0, 0))) := by rw [blB, if_pos rfl]
theorem blB_ik {l : List Dv} {st : List Int} {i k : Nat} {c : Int} (h : i < k) : blB l st i k c = (dist (l.getD i (0, 0, 0)) (l.getD k (0, 0, 0)) && mtB (l.getD i (0, 0, 0)) (l.getD k (0, 0, 0)) (st.getD i 0) (st.getD k 0) c) := by rw [blB, if_neg (by omega)]
end Go.Pw

set_option linter.unusedSimpArgs false
set_option linter.unusedVariables false
namespace Go.Pw
set_option maxRecDepth 2000
open Go Go.Proofs A1 A2 A3 A4
def stE (c x : Int) : Int := unl (0 ≤ x ∧ x ≤ c - 1) 2
/-- The error of turns of devices. -/
def biE (l : List Dv) (t : Tn) : Int := if fstE [(dvsE l).2, cyE t.1, unl ((t.2.length : Int) = l.length) 10] = 0 then (eachE (stE t.1) 0 t.2).2 else fstE [(dvsE l).2, cyE t.1, unl ((t.2.length : Int) = l.length) 10]
theorem each2 {f : Int → Int} (hf : ∀ x, f x = 0 ∨ f x = 2) : ∀ {l : List Int} {i : Nat}, (∃ x ∈ l, ¬ f x = 0) → (eachE f i l).2 = 2 := fun {l i} ⟨x, hx, h⟩ => by
  have h2 : ∀ (l : List Int) (i : Nat), (eachE f i l).2 = 0 ∨ (eachE f i l).2 = 2 := fun l => by
    induction l with
    | nil => intro i; left; rfl
    | cons y l ih =>
      intro i
      rw [eachE]
      split
      · exact ih _
      · exact hf y
  rcases h2 l i with h0 | h0
  · exact absurd (eachE_ok.1 h0 x hx) h
  · exact h0
theorem stE_02 (c x : Int) : stE c x = 0 ∨ stE c x = 2 := by rw [stE, unl_eq]; split <;> simp
theorem biE_ok {l : List Dv} {t : Tn} : biE l t = 0 ↔ TnOk l t := by
  constructor
  · intro h
    by_cases h0 : fstE [(dvsE l).2, cyE t.1, unl ((t.2.length : Int) = l.length) 10] = 0
    · rw [biE, if_pos h0] at h
      rw [fst0, fst0, fst0] at h0
      have h1 := dvsE_ok.1 h0.1
      have h2 := (unl0 (by decide)).1 h0.2.1
      have h3 := (unl0 (by decide)).1 h0.2.2.1
      refine ⟨h1, by omega, by omega, fun i hi => ?_⟩
      have := (unl0 (by decide)).1 (eachE_ok.1 h _ (getD_mem 0 hi))
      omega
    · rw [biE, if_neg h0] at h; exact absurd h h0
  · intro h
    have h0 : fstE [(dvsE l).2, cyE t.1, unl ((t.2.length : Int) = l.length) 10] = 0 := by
      rw [fst0, fst0, fst0]
      have := h.c; have := h.n
      exact ⟨dvsE_ok.2 h.d, (unl0 (by decide)).2 (by omega), (unl0 (by decide)).2 (by omega), rfl⟩
    rw [biE, if_pos h0]
    refine eachE_ok.2 fun x hx => ?_
    obtain ⟨i, hi, rfl⟩ := List.getElem_of_mem hx
    have := h.s i hi
    rw [List.getD_eq_getElem?_getD, List.getElem?_eq_getElem hi, Option.getD_some] at this
    exact (unl0 (by decide)).2 (by omega)
end Go.Pw

set_option linter.unusedSimpArgs false
set_option linter.unusedVariables false
namespace Go.Pw
set_option maxRecDepth 2000
open Go Go.Proofs A1 A2 A3 A4
/-- A pair that blinds each other. -/
abbrev bpB (l : List Dv) (st : List Int) (i k : Nat) (c : Int) : Bool := dist (l.getD i (0, 0, 0)) (l.getD k (0, 0, 0)) && mtB (l.getD i (0, 0, 0)) (l.getD k (0, 0, 0)) (st.getD i 0) (st.getD k 0) c
/-- A device that is placed blinds none before it. -/
def freB (l : List Dv) (st : List Int) (k : Nat) (s c : Int) : Bool := (List.range k).all fun i => !(dist (l.getD i (0, 0, 0)) (l.getD k (0, 0, 0)) && mtB (l.getD i (0, 0, 0)) (l.getD k (0, 0, 0)) (st.getD i 0) s c)
/-- The first starts that begin with some, as the document looks for them: so many starts from one on. -/
def tryG (g : Nat → Option (List Int)) : Nat → Nat → Option (List Int)
  | 0, _ => none
  | r + 1, n => match g n with
    | none => tryG g r (n + 1)
    | some o => some o
def grS (l : List Dv) (c : Nat) : Nat → List Int → Option (List Int)
  | 0, st => some st
  | f + 1, st => tryG (fun n => if freB l st st.length n c = true then grS l c f (st ++ [(n : Int)]) else none) c 0
theorem tryG_some {g : Nat → Option (List Int)} {o : List Int} : ∀ {r n : Nat}, tryG g r n = some o → ∃ m, n ≤ m ∧ m < n + r ∧ g m = some o ∧ ∀ j, n ≤ j → j < m → g j = none
  | 0, n, h => by cases h
  | r + 1, n, h => by
    rw [tryG] at h
    split at h
    · rename_i hn
      obtain ⟨m, h1, h2, h3, h4⟩ := tryG_some h
      refine ⟨m, by omega, by omega, h3, fun j hj1 hj2 => ?_⟩
      rcases Nat.lt_or_eq_of_le hj1 with h5 | rfl
      · exact h4 j h5 hj2
      · exact hn
    · rename_i q hq
      cases h
      exact ⟨n, Nat.le_refl _, by omega, hq, fun j h1 h2 => absurd h1 (by omega)⟩
theorem tryG_none {g : Nat → Option (List Int)} : ∀ {r n : Nat}, tryG g r n = none ↔ ∀ m, n ≤ m → m < n + r → g m = none
  | 0, n => ⟨fun _ m h1 h2 => absurd h2 (by omega), fun _ => rfl⟩
  | r + 1, n => by
    rw [tryG]
    split
    · rename_i hn
      rw [tryG_none]
      constructor
      · intro h m h1 h2
        rcases Nat.lt_or_eq_of_le h1 with h5 | rfl
        · exact h m (by omega) (by omega)
        · exact hn
      · intro h m h1 h2; exact h m (by omega) (by omega)
    · rename_i q hq
      constructor
      · intro h; cases h
      · intro h; rw [h n (Nat.le_refl _) (by omega)] at hq; cases hq
/-- The meeting of windows says nothing but how far apart they begin. -/
theorem mtB_shift {a b : Dv} {s t c n : Int} (hc : 0 < c) : mtB a b ((s - n) % c) ((t - n) % c) c = mtB a b s t c := by
  have e : ((t - n) % c - (s - n) % c + c) % c = (t - s + c) % c := by
    rw [Int.add_emod_right, Int.add_emod_right, ← Int.sub_emod]
    congr 1; omega
  rw [mtB, mtB, e]
theorem getD_app {st : List Int} {a : Int} {i : Nat} : (st ++ [a]).getD i 0 = if i < st.length then st.getD i 0 else if i = st.length then a else 0 := by
  simp only [List.getD_eq_getElem?_getD]
  split
  · rename_i h; rw [List.getElem?_append_left h]
  · rename_i h
    rw [List.getElem?_append_right (by omega)]
    split
    · rename_i h2; subst h2; simp
    · rename_i h2
      rw [List.getElem?_eq_none (by simp; omega)]; rfl
theorem fre_iff {l : List Dv} {st o : List Int} {k : Nat} {s c : Int} (hp : ∀ i, i < k → o.getD i 0 = st.getD i 0) (hk : o.getD k 0 = s) : freB l st k s c = true ↔ ∀ i, i < k → bpB l o i k c = false := by
  rw [freB, List.all_eq_true]
  constructor
  · intro h i hi
    have := h i (List.mem_range.2 hi)
    rw [bpB, hp i hi, hk]
    simpa only [Bool.not_eq_true'] using this
  · intro h i hi
    have hi := List.mem_range.1 hi
    have := h i hi
    rw [bpB, hp i hi, hk] at this
    rw [this]; rfl
theorem grS_sound {l : List Dv} {c : Nat} : ∀ {f : Nat} {st o : List Int}, grS l c f st = some o → o.length = st.length + f ∧ (∀ i, i < st.length → o.getD i 0 = st.getD i 0) ∧ (stOk st c → stOk o c) ∧ ∀ k, st.length ≤ k → k < o.length → ∀ i, i < k → bpB l o i k c = false
  | 0, st, o, h => by
    rw [grS] at h; cases h
    exact ⟨rfl, fun _ _ => rfl, fun h => h, fun k h1 h2 => absurd h1 (by omega)⟩
  | f + 1, st, o, h => by
    rw [grS] at h
    obtain ⟨m, _, hm, hg, _⟩ := tryG_some h
    split at hg
    · rename_i hf
      obtain ⟨h1, h2, h3, h4⟩ := grS_sound hg
      rw [List.length_append, List.length_singleton] at h1 h2 h4
      have hpre : ∀ i, i < st.length → o.getD i 0 = st.getD i 0 := fun i hi => by
        rw [h2 i (by omega), getD_app, if_pos hi]
      have hat : o.getD st.length 0 = m := by
        rw [h2 st.length (by omega), getD_app, if_neg (by omega), if_pos rfl]
      refine ⟨by omega, hpre, fun h => h3 (stOk_app h ⟨by omega, by omega⟩), fun k hk1 hk2 => ?_⟩
      rcases Nat.lt_or_eq_of_le hk1 with h5 | rfl
      · exact h4 k (by omega) hk2
      · exact (fre_iff hpre hat).1 hf
    · cases hg
theorem grS_none {l : List Dv} {c : Nat} : ∀ {f : Nat} {st : List Int}, grS l c f st = none → ∀ o : List Int, o.length = st.length + f → (∀ i, i < st.length → o.getD i 0 = st.getD i 0) → stOk o c → (∀ k, st.length ≤ k → k < o.length → ∀ i, i < k → bpB l o i k c = false) → False
  | 0, st, h, _, _, _, _, _ => by rw [grS] at h; cases h
  | f + 1, st, h, o, h1, h2, h3, h4 => by
    rw [grS] at h
    have hk : st.length < o.length := by omega
    have hb := h3 st.length hk
    have hm := tryG_none.1 h (o.getD st.length 0).toNat (Nat.zero_le _) (by omega)
    have hat : o.getD st.length 0 = (((o.getD st.length 0).toNat : Nat) : Int) := by omega
    rw [if_pos ((fre_iff h2 hat).2 (h4 st.length (Nat.le_refl _) hk))] at hm
    refine grS_none hm o (by rw [List.length_append, List.length_singleton]; omega) (fun i hi => ?_) h3 (fun k hk1 hk2 => ?_)
    · rw [List.length_append, List.length_singleton] at hi
      rw [getD_app]
      split
      · rename_i h5; exact h2 i h5
      · have : i = st.length := by omega
        subst this
        rw [if_pos rfl]; exact hat
    · rw [List.length_append, List.length_singleton] at hk1
      exact h4 k (by omega) hk2
/-- No starts with one first: none with another. -/
theorem grS_turn {l : List Dv} {c f : Nat} (hc : 0 < c) (h : grS l c f [0] = none) (n : Nat) (hn : n < c) : grS l c f [(n : Int)] = none := by
  cases hg : grS l c f [(n : Int)] with
  | none => rfl
  | some o =>
    exfalso
    obtain ⟨h1, h2, h3, h4⟩ := grS_sound hg
    have hst : stOk [(n : Int)] c := fun i hi => by
      have : i = 0 := by simp at hi; omega
      subst this; show 0 ≤ (n : Int) ∧ (n : Int) < c; omega
    have ho := h3 hst
    have h0 : o.getD 0 0 = n := h2 0 (by simp)
    have hl : (o.map fun s => (s - n) % (c : Int)).length = o.length := List.length_map ..
    have hg2 : ∀ i, i < o.length → (o.map fun s => (s - n) % (c : Int)).getD i 0 = (o.getD i 0 - n) % (c : Int) := fun i hi => by
      rw [List.getD_eq_getElem?_getD, List.getElem?_map, List.getElem?_eq_getElem hi, List.getD_eq_getElem?_getD, List.getElem?_eq_getElem hi]; rfl
    simp only [List.length_singleton] at h1 h4
    refine grS_none h (o.map fun s => (s - n) % (c : Int)) (by rw [hl]; exact h1) (fun i hi => ?_) (fun i hi => ?_) (fun k hk1 hk2 i hi => ?_)
    · have : i = 0 := by simp at hi; omega
      subst this
      rw [hg2 0 (by omega), h0, Int.sub_self]; rfl
    · rw [hl] at hi
      rw [hg2 i hi]
      exact ⟨Int.emod_nonneg _ (by omega), Int.emod_lt_of_pos _ (by omega)⟩
    · rw [hl] at hk2
      have := h4 k hk1 hk2 i hi
      rw [bpB, hg2 i (by omega), hg2 k hk2, mtB_shift (by omega)]
      exact this
/-- A device that blinds itself. -/
abbrev itB (l : List Dv) (c : Int) (k : Nat) : Bool := decide (c < win (l.getD k (0, 0, 0)))
theorem blk_eq {l : List Dv} {st : List Int} {n : Nat} {c : Int} : blk l (st ++ [(n : Int)]) c (st.length + 1) = (!(freB l st st.length n c) || itB l c st.length) := by
  have hl : (st ++ [(n : Int)]).length - 1 = st.length := by simp
  have hat : (st ++ [(n : Int)]).getD st.length 0 = n := by rw [getD_app, if_neg (by omega), if_pos rfl]
  have hpre : ∀ i, i < st.length → (st ++ [(n : Int)]).getD i 0 = st.getD i 0 := fun i hi => by rw [getD_app, if_pos hi]
  rw [blk_succ, hl, blB_ii]
  congr 1
  rw [blk, hl, Bool.eq_iff_iff, Bool.not_eq_true', List.any_eq_true]
  constructor
  · rintro ⟨i, hi, h⟩
    have hi := List.mem_range.1 hi
    rw [Bool.eq_false_iff]
    intro hf
    have := (fre_iff hpre hat).1 hf i hi
    rw [blB_ik hi] at h
    exact Bool.noConfusion (this.symm.trans h)
  · intro h
    rw [Bool.eq_false_iff, ne_eq, fre_iff hpre hat] at h
    refine Classical.byContradiction fun hno => h fun i hi => ?_
    rw [Bool.eq_false_iff]
    intro hb
    exact hno ⟨i, List.mem_range.2 hi, by rw [blB_ik hi]; exact hb⟩
theorem try_eq {g : Nat → Option (Option (List Int))} {h : Nat → Option (List Int)} (he : ∀ n, g n = (h n).map some) : ∀ r n, tryL g r n = tryG h r n
  | 0, _ => rfl
  | r + 1, n => by
    rw [tryL, tryG, he n]
    cases h n with
    | none => exact try_eq he r (n + 1)
    | some o => rfl
theorem plS_eq {l : List Dv} {c : Nat} (hi : ∀ k, k < l.length → itB l c k = false) : ∀ {f : Nat} {st : List Int}, 0 < st.length → st.length + f = l.length → plS l c f st = grS l c f st
  | 0, _, _, _ => rfl
  | f + 1, st, h0, hf => by
    rw [plS_succ, grS]
    refine try_eq (fun n => ?_) c 0
    rw [plG, blk_eq, hi st.length (by omega), Bool.or_false, plS_eq hi (f := f) (st := st ++ [(n : Int)]) (by simp) (by simp; omega)]
    cases freB l st st.length n c with
    | false => rfl
    | true =>
      rw [if_neg (by decide), if_pos rfl]
      cases grS l c f (st ++ [(n : Int)]) with
      | none => rw [if_neg (by omega)]; rfl
      | some o => rfl
theorem plS_it {l : List Dv} {c : Nat} : ∀ {f : Nat} {st o : List Int}, plS l c f st = some o → ∀ k, st.length ≤ k → k < st.length + f → itB l c k = false
  | 0, st, o, _, k, h1, h2 => absurd h1 (by omega)
  | f + 1, st, o, h, k, h1, h2 => by
    rw [plS_succ] at h
    refine tryL_pos (P := fun _ => itB l c k = false) (fun n o hn => ?_) _ _ _ h
    rw [plG, blk_eq] at hn
    split at hn
    · cases hn
    · rename_i hb
      split at hn
      · rename_i o' ho
        rcases Nat.lt_or_eq_of_le h1 with h5 | rfl
        · exact plS_it ho k (by simp; omega) (by simp; omega)
        · cases hq : itB l c st.length with
          | false => rfl
          | true => rw [hq, Bool.or_true] at hb; exact absurd rfl hb
      · split at hn <;> cases hn
/-- The first turns as the document has them. -/
def frR (l : List Dv) (c : Nat) : Option (List Int) := if (List.range l.length).any (itB l c) = true then none else grS l c l.length []
theorem plS_all {l : List Dv} {c : Nat} (hc : 0 < c) (hl : 0 < l.length) : plS l c l.length [] = frR l c := by
  rw [frR]
  split
  · rename_i h
    obtain ⟨k, hk, h⟩ := List.any_eq_true.1 h
    have hk := List.mem_range.1 hk
    cases hp : plS l c l.length [] with
    | none => rfl
    | some o =>
      have := plS_it hp k (Nat.zero_le _) (by simpa using hk)
      rw [h] at this; cases this
  · rename_i h
    have hi : ∀ k, k < l.length → itB l c k = false := fun k hk => by
      rw [Bool.eq_false_iff]; intro hb; exact h (List.any_eq_true.2 ⟨k, List.mem_range.2 hk, hb⟩)
    clear h
    obtain ⟨f, hf⟩ : ∃ f, l.length = f + 1 := ⟨l.length - 1, by omega⟩
    rcases c with _ | c
    · exact absurd hc (by decide)
    have hfr : ∀ n : Nat, freB l [] ([] : List Int).length n ((c + 1 : Nat) : Int) = true := fun n => rfl
    have hi0 : itB l ((c + 1 : Nat) : Int) ([] : List Int).length = false := hi 0 hl
    have h0 : plG l (c + 1) f [] 0 = match grS l (c + 1) f [((0 : Nat) : Int)] with | some o => some (some o) | none => some none := by
      have hb := blk_eq (l := l) (st := []) (n := 0) (c := ((c + 1 : Nat) : Int))
      rw [hfr, hi0] at hb
      rw [plG, hb, if_neg (by decide), plS_eq hi (by simp) (by simp; omega)]
      rfl
    rw [hf, plS_succ, grS, tryL, h0]
    cases hz : grS l (c + 1) f [((0 : Nat) : Int)] with
    | some o =>
      rw [tryG]
      show some o = match (if freB l [] ([] : List Int).length ((0 : Nat) : Int) ((c + 1 : Nat) : Int) = true then grS l (c + 1) f [((0 : Nat) : Int)] else none) with | none => _ | some o => some o
      rw [hfr, if_pos rfl, hz]
    | none =>
      refine (tryG_none.2 fun m _ hm => ?_).symm
      rw [hfr, if_pos rfl]
      exact grS_turn hc hz m (by omega)
end Go.Pw

set_option linter.unusedSimpArgs false
set_option linter.unusedVariables false
namespace Go.Pw
set_option maxRecDepth 2000
open Go Go.Proofs A1 A2 A3 A4
end Go.Pw

set_option linter.unusedSimpArgs false
set_option linter.unusedVariables false
namespace Go.Pw
set_option maxRecDepth 2000
open Go Go.Proofs A1 A2 A3 A4
end Go.Pw

set_option linter.unusedSimpArgs false
set_option linter.unusedVariables false
set_option maxHeartbeats 1000000
namespace Go.Pw
set_option maxRecDepth 2000
open Go Go.Proofs A1 A2 A3 A4
end Go.Pw

set_option linter.unusedSimpArgs false
set_option linter.unusedVariables false
namespace Go.Pw
set_option maxRecDepth 2000
open Go Go.Proofs A1 A2 A3 A4
end Go.Pw

set_option linter.unusedSimpArgs false
set_option linter.unusedVariables false
set_option maxHeartbeats 1000000
namespace Go.Pw
set_option maxRecDepth 2000
open Go Go.Proofs A1 A2 A3 A4
end Go.Pw

set_option linter.unusedSimpArgs false
set_option linter.unusedVariables false
namespace Go.Pw
set_option maxRecDepth 2000
open Go Go.Proofs A1 A2 A3 A4
/-- A sum of so many. -/
def smF (f : Nat → Int) : Nat → Int
  | 0 => 0
  | n + 1 => smF f n + f n
theorem smF_congr {f g : Nat → Int} : ∀ {n : Nat}, (∀ i, i < n → f i = g i) → smF f n = smF g n
  | 0, _ => rfl
  | n + 1, h => by rw [smF, smF, smF_congr fun i hi => h i (by omega), h n (by omega)]
end Go.Pw

set_option linter.unusedSimpArgs false
set_option linter.unusedVariables false
set_option maxHeartbeats 1000000
namespace Go.Pw
set_option maxRecDepth 2000
open Go Go.Proofs A1 A2 A3 A4
end Go.Pw

set_option linter.unusedSimpArgs false
set_option linter.unusedVariables false
set_option maxHeartbeats 4000000
namespace Go.Pw
set_option maxRecDepth 2000
open Go Go.Proofs A1 A2 A3 A4
end Go.Pw

set_option linter.unusedSimpArgs false
set_option linter.unusedVariables false
namespace Go.Pw
set_option maxRecDepth 2000
open Go Go.Proofs A1 A2 A3 A4
theorem smF_add {f g : Nat → Int} : ∀ n, smF (fun i => f i + g i) n = smF f n + smF g n
  | 0 => rfl
  | n + 1 => by simp only [smF, smF_add n]; omega
end Go.Pw

set_option linter.unusedSimpArgs false
set_option linter.unusedVariables false
namespace Go.Pw
set_option maxRecDepth 2000
open Go Go.Proofs A1 A2 A3 A4
theorem smF_swap {f : Nat → Nat → Int} {m : Nat} : ∀ n, smF (fun u => smF (fun j => f u j) m) n = smF (fun j => smF (fun u => f u j) n) m
  | 0 => by
    have : ∀ m, smF (fun j => smF (fun u => f u j) 0) m = 0 := fun m => by
      induction m with
      | zero => rfl
      | succ m ih => rw [smF, ih]; rfl
    rw [this]; rfl
  | n + 1 => by
    rw [smF, smF_swap n]
    simp only [smF]
    rw [smF_add]
theorem smF_one_le {f : Nat → Int} : ∀ {n : Nat}, (∀ i, i < n → f i ≤ 1) → smF f n ≤ n
  | 0, _ => Int.le_refl _
  | n + 1, h => by
    have := smF_one_le (n := n) fun i hi => h i (by omega)
    have := h n (by omega)
    simp only [smF]; omega
/-- At most one is one. -/
theorem smF_uniq {f : Nat → Int} : ∀ {n : Nat}, (∀ i, i < n → f i = 0 ∨ f i = 1) → (∀ i j, i < j → j < n → f i = 1 → f j = 1 → False) → smF f n ≤ 1
  | 0, _, _ => by rw [smF]; decide
  | n + 1, h, hu => by
    have ih := smF_uniq (n := n) (fun i hi => h i (by omega)) (fun i j hij hj => hu i j hij (by omega))
    simp only [smF]
    rcases h n (by omega) with h0 | h1
    · omega
    · have hz : smF f n = 0 := by
        have : ∀ m, m ≤ n → smF f m = 0 := fun m => by
          induction m with
          | zero => intro _; rfl
          | succ m ihm =>
            intro hm
            rw [smF, ihm (by omega)]
            rcases h m (by omega) with h2 | h2
            · rw [h2]; rfl
            · exact (hu m n (by omega) (by omega) h2 h1).elim
        exact this n (Nat.le_refl _)
      omega
theorem cnt_lt {a b : Int} (ha : 0 ≤ a) (hab : a ≤ b) : ∀ n : Nat, smF (fun u => if a ≤ (u : Int) ∧ (u : Int) < b then 1 else 0) n = if (n : Int) ≤ a then 0 else if (n : Int) ≤ b then n - a else b - a
  | 0 => by rw [smF, if_pos (by omega)]
  | n + 1 => by
    rw [smF, cnt_lt ha hab n]
    split <;> split <;> (try split) <;> (try split) <;> omega
theorem cnt_win {d : Dv} {s c : Int} {N : Nat} (hN : (N : Int) = c) (hs : 0 ≤ s ∧ s < c) (hw : 0 ≤ win d ∧ win d ≤ c) : smF (fun u => if inW d s c u = true then 1 else 0) N = win d := by
  have e : ∀ u : Nat, u < N → (if inW d s c u = true then (1 : Int) else 0) = (if s ≤ (u : Int) ∧ (u : Int) < s + win d then 1 else 0) + (if (0 : Int) ≤ (u : Int) ∧ (u : Int) < (if s + win d ≤ c then 0 else s + win d - c) then 1 else 0) := fun u hu => by
    have hm : ((u : Int) - s) % c = if (u : Int) < s then (u : Int) - s + c else u - s := by
      rw [emod_cs (by omega) (by omega) (by omega)]
      by_cases h : (u : Int) < s
      · rw [if_pos (show (u : Int) - s < 0 by omega), if_pos h]
      · rw [if_neg (show ¬ (u : Int) - s < 0 by omega), if_pos (show (u : Int) - s < c by omega), if_neg h]
    simp only [inW, decide_eq_true_eq, hm]
    generalize win d = w at *
    by_cases h1 : (u : Int) < s <;> by_cases h2 : s + w ≤ c <;> simp only [h1, h2, if_true, if_false] <;> split <;> split <;> (try split) <;> omega
  rw [smF_congr e, smF_add, cnt_lt hs.1 (by omega), cnt_lt (Int.le_refl _) (by split <;> omega)]
  generalize win d = w at *
  by_cases h2 : s + w ≤ c
  · simp only [h2, if_true]
    (repeat' split) <;> omega
  · simp only [h2, if_false]
    (repeat' split) <;> omega
/-- The windows of a set of devices, added up. -/
theorem wnS_sm {l : List Dv} {t : List Int} : ∀ k, wnS l t k = -(smF (fun j => win (dv l (t.getD j 0))) k)
  | 0 => rfl
  | k + 1 => by rw [wnS, wnS_sm k]; simp only [smF]; omega
theorem no_short {l : List Dv} {c n : Nat} (hO : DvOk l) (hc : 0 < c ∧ c ≤ 40) (hp : pwB l (subL l.length n) (subL l.length n).length = true) (hs : (c : Int) < -(wnS l (subL l.length n) (subL l.length n).length)) : frR l c = none := by
  rw [frR]
  split
  · rfl
  · rename_i hit
    cases hg : grS l c l.length [] with
    | none => rfl
    | some o =>
      exfalso
      obtain ⟨h1, _, h3, h4⟩ := grS_sound hg
      have h1 : o.length = l.length := by simpa using h1
      have hst := h3 (fun i hi => by cases hi)
      have hw : ∀ k, k < l.length → win (l.getD k (0, 0, 0)) ≤ c := fun k hk => by
        have : itB l c k = false := by
          rw [Bool.eq_false_iff]; intro hb; exact hit (List.any_eq_true.2 ⟨k, List.mem_range.2 hk, hb⟩)
        have := of_decide_eq_false this
        omega
      have htm : ∀ y ∈ subL l.length n, 0 ≤ y ∧ y < l.length := fun y hy => subL_mem hy
      have hts : srt (subL l.length n) := srt_of fltL_asc
      generalize subL l.length n = t at *
      have hcnt : ∀ j, j < t.length → smF (fun u => if inW (dv l (t.getD j 0)) (o.getD (t.getD j 0).toNat 0) c u = true then 1 else 0) c = win (dv l (t.getD j 0)) := fun j hj => by
        have hm := htm _ (getD_mem 0 hj)
        have hd := hO.d (t.getD j 0).toNat (by omega)
        have hwj := hw (t.getD j 0).toNat (by omega)
        refine cnt_win rfl (hst _ (by omega)) ⟨?_, hwj⟩
        show 0 ≤ (l.getD (t.getD j 0).toNat (0, 0, 0)).2.1 + (l.getD (t.getD j 0).toNat (0, 0, 0)).2.2
        obtain ⟨_, h5, h6⟩ := hd
        omega
      rw [wnS_sm, Int.neg_neg, ← smF_congr hcnt, ← smF_swap] at hs
      have hle : smF (fun u => smF (fun j => if inW (dv l (t.getD j 0)) (o.getD (t.getD j 0).toNat 0) c u = true then 1 else 0) t.length) c ≤ c := by
        refine smF_one_le fun u hu => smF_uniq (fun j _ => by split; exact .inr rfl; exact .inl rfl) fun i j hij hj hi1 hj1 => ?_
        have hii : inW (dv l (t.getD i 0)) (o.getD (t.getD i 0).toNat 0) c u = true := by
          have h9 : (if inW (dv l (t.getD i 0)) (o.getD (t.getD i 0).toNat 0) c u = true then (1 : Int) else 0) = 1 := hi1
          by_cases h8 : inW (dv l (t.getD i 0)) (o.getD (t.getD i 0).toNat 0) c u = true
          · exact h8
          · rw [if_neg h8] at h9; exact absurd h9 (by decide)
        have hjj : inW (dv l (t.getD j 0)) (o.getD (t.getD j 0).toNat 0) c u = true := by
          have h9 : (if inW (dv l (t.getD j 0)) (o.getD (t.getD j 0).toNat 0) c u = true then (1 : Int) else 0) = 1 := hj1
          by_cases h8 : inW (dv l (t.getD j 0)) (o.getD (t.getD j 0).toNat 0) c u = true
          · exact h8
          · rw [if_neg h8] at h9; exact absurd h9 (by decide)
        have hmi := htm _ (getD_mem 0 (show i < t.length by omega))
        have hmj := htm _ (getD_mem 0 hj)
        have hlt := hts i j hij hj
        have hdi := hO.d (t.getD i 0).toNat (by omega)
        have hdj := hO.d (t.getD j 0).toNat (by omega)
        have hmt : mtB (l.getD (t.getD i 0).toNat (0, 0, 0)) (l.getD (t.getD j 0).toNat (0, 0, 0)) (o.getD (t.getD i 0).toNat 0) (o.getD (t.getD j 0).toNat 0) c = true :=
          (mtB_iff hdi hdj (by omega) (hst _ (by omega)) (hst _ (by omega))).2 ⟨u, by omega, hii, hjj⟩
        have hds : dist (l.getD (t.getD i 0).toNat (0, 0, 0)) (l.getD (t.getD j 0).toNat (0, 0, 0)) = true := by
          have h5 := List.all_eq_true.1 (List.all_eq_true.1 hp j (List.mem_range.2 hj)) i (List.mem_range.2 hij)
          have h6 := of_decide_eq_true h5
          refine decide_eq_true ?_
          simp only [dv] at h6
          omega
        have h7 := h4 (t.getD j 0).toNat (Nat.zero_le _) (by omega) (t.getD i 0).toNat (by omega)
        rw [bpB, hds, hmt] at h7
        exact absurd h7 (by decide)
      omega
end Go.Pw

set_option linter.unusedSimpArgs false
set_option linter.unusedVariables false
set_option maxHeartbeats 1000000
namespace Go.Pw
set_option maxRecDepth 2000
open Go Go.Proofs A1 A2 A3 A4
end Go.Pw

set_option linter.unusedSimpArgs false
set_option linter.unusedVariables false
set_option maxHeartbeats 1000000
namespace Go.Pw
set_option maxRecDepth 2000
open Go Go.Proofs A1 A2 A3 A4
/-- The turns of starts that were found. -/
def frT (c : Nat) : Option (List Int) → Tn
  | some o => ((c : Int), o)
  | none => (0, [])
/-- The shortest turns, looked for from a cycle on. -/
def stT (l : List Dv) : Nat → Nat → Tn × Bool
  | 0, _ => ((0, []), false)
  | r + 1, c => match frR l c with
    | some o => (((c : Int), o), true)
    | none => stT l r (c + 1)
end Go.Pw

set_option linter.unusedSimpArgs false
set_option linter.unusedVariables false
set_option maxHeartbeats 1000000
namespace Go.Pw
set_option maxRecDepth 2000
open Go Go.Proofs A1 A2 A3 A4
end Go.Pw

set_option linter.unusedSimpArgs false
set_option linter.unusedVariables false
set_option maxHeartbeats 2000000
namespace Go.Pw
set_option maxRecDepth 2000
open Go Go.Proofs A1 A2 A3 A4
theorem ftR_ok {l : List Dv} {c : Nat} (hl : DvOk l) (hc : 0 < c ∧ c ≤ 40) : ftR l c = (frT c (frR l c), if (frR l c).isSome = true then 0 else 12) := by
  have h0 : fstE [(dvsE l).2, cyE (c : Int)] = 0 := fst2.2 ⟨dvsE_ok.2 hl, cyE_ok.2 (by omega)⟩
  rw [ftR, if_pos h0, Int.toNat_natCast, plS_all hc.1 hl.n.1]
  cases frR l c with
  | none => rfl
  | some o => rfl
theorem stT_skip {l : List Dv} : ∀ {d r c : Nat}, (∀ k, c ≤ k → k < c + d → frR l k = none) → stT l (d + r) c = stT l r (c + d)
  | 0, r, c, _ => by rw [Nat.zero_add]; rfl
  | d + 1, r, c, h => by
    rw [show d + 1 + r = (d + r) + 1 by omega, stT, h c (Nat.le_refl _) (by omega)]
    show stT l (d + r) (c + 1) = _
    rw [stT_skip fun k h1 h2 => h k (by omega) (by omega), show c + 1 + d = c + (d + 1) by omega]
theorem findT_eq {l : List Dv} (hl : DvOk l) : ∀ {r c : Nat}, 0 < c → c + r ≤ 41 → findT l r c = ((stT l r c).1, if (stT l r c).2 = true then 0 else 12)
  | 0, _, _, _ => rfl
  | r + 1, c, h0, h1 => by
    rw [findT, stT, ftR_ok hl ⟨h0, by omega⟩]
    cases hf : frR l c with
    | none =>
      have := findT_eq hl (r := r) (c := c + 1) (by omega) (by omega)
      simpa using this
    | some o => rfl
theorem shR_ok {l : List Dv} (hl : DvOk l) : shR l = ((stT l 40 1).1, if (stT l 40 1).2 = true then 0 else 12) := by
  have h0 : (dvsE l).2 = 0 := dvsE_ok.2 hl
  obtain ⟨hb1, hb2⟩ := best_p (c := bdC l) (n := l.length) (2 ^ l.length)
  have hlo := bestK_lo (c := bdC l) (n := l.length) (lo := -100) (by decide) (fun b => bdC_bd hl b) (2 ^ l.length)
  rw [shR, if_pos h0]
  change (bdK l).ok = true → ∃ x, x < 2 ^ l.length ∧ (bdK l).l = subL l.length x ∧ (bdK l).p = (bdC l (subL l.length x)).1 ∧ (bdC l (subL l.length x)).2 = true at hb2
  change -100 ≤ (bdK l).p ∧ (bdK l).p ≤ 0 at hlo
  have e0 : subL l.length 0 = [] := by
    have : ∀ n, fltL (fun i => (0 : Nat).testBit i) n = [] := fun n => by
      induction n with
      | zero => rfl
      | succ n ih => rw [fltL_succ, ih, if_neg (by simp)]
    exact this _
  have hok : (bdK l).ok = true := (hb1 0 (Nat.pow_pos (by decide)) (by rw [e0]; rfl)).1
  obtain ⟨x, _, _, e1, e2⟩ := hb2 hok
  have hp : pwB l (subL l.length x) (subL l.length x).length = true := by
    rw [bdC] at e2
    split at e2
    · assumption
    · cases e2
  rw [bdC, if_pos hp] at e1
  have hno : ∀ k : Nat, 0 < k → k ≤ 40 → (k : Int) < -(bdK l).p → frR l k = none := fun k h1 h2 h3 => no_short (n := x) hl ⟨h1, h2⟩ hp (by rw [e1] at h3; exact h3)
  generalize (bdK l).p = p at *
  obtain ⟨B, hB⟩ : ∃ B : Nat, p = -(B : Int) := ⟨(-p).toNat, by omega⟩
  subst hB
  rw [Int.neg_neg] at hno ⊢
  rcases Nat.eq_zero_or_pos B with rfl | hB
  · rw [show (41 + -((0 : Nat) : Int)).toNat = 40 + 1 by decide, findT, if_neg (by rw [ftR, if_neg (by rw [fst2, cyE_ok]; omega)]; rw [h0]; decide)]
    exact findT_eq hl (r := 40) (c := 1) (by decide) (by decide)
  · rcases Nat.lt_or_ge 41 B with h41 | h41
    · rw [show (41 + -(B : Int)).toNat = 0 by omega, show stT l 40 1 = stT l (40 + 0) 1 from rfl, stT_skip fun k h1 h2 => hno k (by omega) (by omega) (by omega)]
      rfl
    · rw [show (41 + -(B : Int)).toNat = 41 - B by omega, findT_eq hl hB (by omega)]
      have e : stT l 40 1 = stT l (41 - B) B := by
        rw [show (40 : Nat) = (B - 1) + (41 - B) by omega, stT_skip fun k h1 h2 => hno k (by omega) (by omega) (by omega)]
        rw [show 1 + (B - 1) = B by omega]
      rw [e]
theorem frR_len {l : List Dv} {c : Nat} {o : List Int} (h : frR l c = some o) : o.length = l.length := by
  rw [frR] at h
  split at h
  · cases h
  · have := (grS_sound h).1
    simpa using this
end Go.Pw

set_option linter.unusedSimpArgs false
set_option linter.unusedVariables false
namespace Go.Pw
set_option maxRecDepth 2000
open Go Go.Proofs A1 A2 A3 A4
end Go.Pw

set_option linter.unusedVariables false
namespace Go.Pw
open Go Go.RowKit
section
variable {P : Program} {N base : Nat}
theorem nmAt_nil (base : Nat) : nmAt base [] = id := by
  funext i
  unfold nmAt
  split <;> rfl
/-- What a function does to the store that it is given, from its code. -/
theorem CallD.of [m : Mix P] {f : FuncId} {lc : LCode} {rl : List RL} {args vs : List V} {σ σ' : Store} {nx nx' : Nat} (hf : FnOk P f N lc rl) (hN : Nat.ble args.length N = true) (hle : Nat.ble nx nx' = true) (hin : Is nx ⟨argEnv 0 args, σ, nx⟩ ⟨argEnv 0 args, σ, nx⟩ [])
    (h : wp P N nx lc ⟨argEnv 0 args, σ, nx⟩ (RetQ nx rl vs σ' nx')) : CallD P f args σ nx (retV vs) σ' nx' := by
  obtain ⟨hent, own, fn, h1, h2⟩ := hf
  have := hin.wk
  rw [nmAt_nil] at this
  exact CallD.enter h1 hent h2 (Nat.le_of_ble_eq_true hN) (Nat.le_of_ble_eq_true hle) this (Sat.of h)
theorem RetQ.is {nx nx' : Nat} {rl : List RL} {vs : List V} {σ' : Store} {e : Exit} {env : List (Nat × V)} (hres : resAll env σ' rl = some vs) (he : e = .normal ∨ e = .ret := by first | exact .inr rfl | exact .inl rfl) : RetQ nx rl vs σ' nx' e ⟨env, σ', nx'⟩ :=
  ⟨he, vs, hres, rfl, Mv.refl _ _⟩
end
end Go.Pw

set_option linter.unusedSimpArgs false
set_option linter.unusedVariables false
set_option maxHeartbeats 1000000
namespace Go.Pw
set_option maxRecDepth 2000
open Go Go.Proofs A1 A2 A3 A4
end Go.Pw

set_option linter.unusedSimpArgs false
set_option linter.unusedVariables false
set_option maxHeartbeats 1000000
namespace Go.Pw
set_option maxRecDepth 2000
open Go Go.Proofs A1 A2 A3 A4
end Go.Pw

set_option linter.unusedSimpArgs false
set_option linter.unusedVariables false
set_option maxHeartbeats 1000000
namespace Go.Pw
set_option maxRecDepth 2000
open Go Go.Proofs A1 A2 A3 A4
end Go.Pw

set_option linter.unusedSimpArgs false
set_option linter.unusedVariables false
set_option maxHeartbeats 1000000
namespace Go.Pw
set_option maxRecDepth 2000
open Go Go.Proofs A1 A2 A3 A4
end Go.Pw

set_option linter.unusedSimpArgs false
set_option linter.unusedVariables false
set_option maxHeartbeats 2000000
namespace Go.Pw
set_option maxRecDepth 2000
open Go Go.Proofs A1 A2 A3 A4
end Go.Pw

set_option linter.unusedSimpArgs false
set_option linter.unusedVariables false
set_option maxHeartbeats 1000000
namespace Go.Pw
set_option maxRecDepth 2000
open Go Go.Proofs A1 A2 A3 A4
abbrev r4 (s : Int) (a : List Int) (t : Int) (b : List Int) : V := .agg [int s, ints a, int t, ints b]
end Go.Pw

set_option linter.unusedSimpArgs false
set_option linter.unusedVariables false
set_option maxHeartbeats 1000000
namespace Go.Pw
set_option maxRecDepth 2000
open Go Go.Proofs A1 A2 A3 A4
end Go.Pw

set_option linter.unusedSimpArgs false
set_option linter.unusedVariables false
namespace Go.Pw
theorem ratN {n : Int} (h : 0 ≤ n) : ((n.toNat : Nat) : Rat) = (n : Rat) := by
  have e : ((n.toNat : Nat) : Int) = n := Int.toNat_of_nonneg h
  rw [← Rat.intCast_natCast, e]
abbrev qV (q : Qt) : Rat := (q.1 : Rat) / (q.2 : Rat)
theorem qV_mul {q : Qt} (h : 0 < q.2) : qV q * q.2 = q.1 := Rat.div_mul_cancel (by have : (0 : Rat) < (q.2 : Nat) := by exact_mod_cast h
                                                                                   grind)
theorem plusQ_x {q o : Qt} (hq : 0 < q.2) (ho : 0 < o.2) : (plusQ q o).1 * (q.2 * o.2) = (q.1 * o.2 + o.1 * q.2) * (plusQ q o).2 := by
  rw [plusQ]
  have g0 : 0 < Nat.gcd q.2 o.2 := Nat.gcd_pos_of_pos_left _ hq
  have e1 : Nat.gcd q.2 o.2 * (q.2 / Nat.gcd q.2 o.2) = q.2 := Nat.mul_div_cancel' (Nat.gcd_dvd_left _ _)
  have e2 : Nat.gcd q.2 o.2 * (o.2 / Nat.gcd q.2 o.2) = o.2 := Nat.mul_div_cancel' (Nat.gcd_dvd_right _ _)
  have y0 : 0 < q.2 / Nat.gcd q.2 o.2 := Nat.div_pos (Nat.le_of_dvd hq (Nat.gcd_dvd_left _ _)) g0
  generalize q.2 / Nat.gcd q.2 o.2 = y at *
  generalize o.2 / Nat.gcd q.2 o.2 = x at *
  generalize Nat.gcd q.2 o.2 = g at *
  have h0 : 0 < Nat.gcd (q.1 * x + o.1 * y) (y * o.2) := Nat.gcd_pos_of_pos_right _ (Nat.mul_pos y0 ho)
  have e3 : Nat.gcd (q.1 * x + o.1 * y) (y * o.2) * ((q.1 * x + o.1 * y) / Nat.gcd (q.1 * x + o.1 * y) (y * o.2)) = q.1 * x + o.1 * y := Nat.mul_div_cancel' (Nat.gcd_dvd_left _ _)
  have e4 : Nat.gcd (q.1 * x + o.1 * y) (y * o.2) * (y * o.2 / Nat.gcd (q.1 * x + o.1 * y) (y * o.2)) = y * o.2 := Nat.mul_div_cancel' (Nat.gcd_dvd_right _ _)
  generalize (q.1 * x + o.1 * y) / Nat.gcd (q.1 * x + o.1 * y) (y * o.2) = n at *
  generalize y * o.2 / Nat.gcd (q.1 * x + o.1 * y) (y * o.2) = d at *
  generalize Nat.gcd (q.1 * x + o.1 * y) (y * o.2) = h at *
  refine Nat.eq_of_mul_eq_mul_left h0 ?_
  calc h * (n * (q.2 * o.2)) = (h * n) * (q.2 * o.2) := by rw [Nat.mul_assoc]
    _ = (q.1 * x + o.1 * y) * ((g * y) * o.2) := by rw [e3, e1]
    _ = (q.1 * (g * x) + o.1 * (g * y)) * (y * o.2) := by grind
    _ = (q.1 * o.2 + o.1 * q.2) * (h * d) := by rw [e2, e1, e4]
    _ = h * ((q.1 * o.2 + o.1 * q.2) * d) := by rw [Nat.mul_left_comm]
theorem nR {n : Nat} (h : 0 < n) : (0 : Rat) < n := by exact_mod_cast h
theorem plusQ_v {q o : Qt} (hq : 0 < q.2) (ho : 0 < o.2) : qV (plusQ q o) = qV q + qV o := by
  have hp := plusQ_pos hq ho
  have e : (((plusQ q o).1 * (q.2 * o.2) : Nat) : Rat) = (((q.1 * o.2 + o.1 * q.2) * (plusQ q o).2 : Nat) : Rat) := by rw [plusQ_x hq ho]
  have a1 := qV_mul hq
  have a2 := qV_mul ho
  have a3 := qV_mul hp
  have b1 := nR hq
  have b2 := nR ho
  have b3 := nR hp
  simp only [Rat.natCast_mul, Rat.natCast_add] at e
  generalize qV (plusQ q o) = P at *
  generalize qV q = Q at *
  generalize qV o = O at *
  rw [← a1, ← a2, ← a3] at e
  have hne : (q.2 : Rat) * o.2 * (plusQ q o).2 ≠ 0 := by
    have := Rat.mul_pos (Rat.mul_pos b1 b2) b3
    grind
  have e5 : (P - (Q + O)) * ((q.2 : Rat) * o.2 * (plusQ q o).2) = 0 := by grind
  rcases Rat.mul_eq_zero.1 e5 with h | h
  · grind
  · exact absurd h hne
abbrev Ts := List (Int × Int)
def DQ : Ts → Rat → Rat
  | [], _ => 0
  | x :: r, t => if r = [] ∨ t * (x.2 : Rat) < (x.1 : Rat) then t * x.2 else x.1 + DQ r (t - x.1 / x.2)
/-- Layers in range, with positive speeds. -/
abbrev okV (l : Ts) : Prop := ∀ x ∈ l, 1 ≤ x.1 ∧ 1 ≤ x.2
/-- The same layers, with no slower speeds. -/
def le2 : Ts → Ts → Prop
  | [], [] => True
  | x :: l, y :: m => x.1 = y.1 ∧ x.2 ≤ y.2 ∧ le2 l m
  | _, _ => False
theorem le2_ok : ∀ {l m : Ts}, okV l → le2 l m → okV m
  | [], [], h, _ => h
  | x :: l, y :: m, h, hw => fun z hz => by
    have hx := h x (.head _)
    obtain ⟨h1, h2, h3⟩ := hw
    rcases List.mem_cons.1 hz with rfl | hz
    · omega
    · exact le2_ok (fun y hy => h y (.tail _ hy)) h3 z hz
  | [], _ :: _, _, h => h.elim
  | _ :: _, [], _, h => h.elim
theorem okV.tl {x : Int × Int} {l : Ts} (h : okV (x :: l)) : okV l := fun y hy => h y (.tail _ hy)
theorem iR {n : Int} (h : 1 ≤ n) : (0 : Rat) < n := by
  have : (0 : Int) < n := by omega
  exact_mod_cast this
theorem q_le {a b v : Rat} (hv : 0 < v) : a / v ≤ b ↔ a ≤ b * v := by
  have e : a / v * v = a := Rat.div_mul_cancel (by grind)
  constructor
  · intro h; have := Rat.mul_le_mul_of_nonneg_right h (Rat.le_of_lt hv); rwa [e] at this
  · intro h; exact Rat.le_of_mul_le_mul_right (by rwa [e]) hv
theorem DQ_nn : ∀ {l : Ts} {t : Rat}, okV l → 0 ≤ t → 0 ≤ DQ l t
  | [], _, _, _ => Rat.le_refl
  | x :: r, t, h, ht => by
    have hx := h x (.head _)
    have h1 := iR hx.1
    have h2 := iR hx.2
    rw [DQ]
    split
    · exact Rat.mul_nonneg ht (Rat.le_of_lt h2)
    · rename_i hc
      have hc : (x.1 : Rat) ≤ t * x.2 := Rat.not_lt.1 fun h => hc (.inr h)
      have := DQ_nn (l := r) (t := t - x.1 / x.2) h.tl (by have := (q_le h2).2 hc; grind)
      grind
theorem DQ_t : ∀ {l : Ts} {s t : Rat}, okV l → 0 ≤ s → s ≤ t → DQ l s ≤ DQ l t
  | [], _, _, _, _, _ => Rat.le_refl
  | x :: r, s, t, h, hs, ht => by
    have hx := h x (.head _)
    have h1 := iR hx.1
    have h2 := iR hx.2
    have hm := Rat.mul_le_mul_of_nonneg_right ht (Rat.le_of_lt h2)
    rw [DQ, DQ]
    by_cases hr : r = []
    · rw [if_pos (.inl hr), if_pos (.inl hr)]; exact hm
    · by_cases c1 : s * (x.2 : Rat) < x.1
      · rw [if_pos (.inr c1)]
        by_cases c2 : t * (x.2 : Rat) < x.1
        · rw [if_pos (.inr c2)]; exact hm
        · rw [if_neg (by simp only [hr, c2]; decide)]
          have := DQ_nn (l := r) (t := t - x.1 / x.2) h.tl (by have := (q_le h2).2 (Rat.not_lt.1 c2); grind)
          grind
      · have c2 : ¬ t * (x.2 : Rat) < x.1 := by grind
        rw [if_neg (by simp only [hr, c1]; decide), if_neg (by simp only [hr, c2]; decide)]
        have := DQ_t (l := r) (s := s - x.1 / x.2) (t := t - x.1 / x.2) h.tl (by have := (q_le h2).2 (Rat.not_lt.1 c1); grind) (by grind)
        grind
theorem DQ_v : ∀ {l m : Ts} {t : Rat}, okV l → le2 l m → 0 ≤ t → DQ l t ≤ DQ m t
  | [], [], _, _, _, _ => Rat.le_refl
  | [], _ :: _, _, _, h, _ => h.elim
  | _ :: _, [], _, _, h, _ => h.elim
  | x :: r, y :: s, t, h, hw, ht => by
    have hx := h x (.head _)
    obtain ⟨hxy, hwx, hwr⟩ := hw
    have hk : okV s := le2_ok h.tl hwr
    have hs : s = [] ↔ r = [] := by cases r <;> cases s <;> simp_all [le2]
    have h1 := iR hx.1
    have h2 := iR hx.2
    have h3 := iR (show 1 ≤ y.2 by omega)
    have hvw : (x.2 : Rat) ≤ y.2 := by exact_mod_cast hwx
    have hm := Rat.mul_le_mul_of_nonneg_left hvw ht
    rw [DQ, DQ, ← hxy]
    by_cases hr : r = []
    · rw [if_pos (.inl hr), if_pos (.inl (hs.2 hr))]; exact hm
    · by_cases c1 : t * (x.2 : Rat) < x.1
      · rw [if_pos (.inr c1)]
        by_cases c2 : t * (y.2 : Rat) < x.1
        · rw [if_pos (.inr c2)]; exact hm
        · rw [if_neg (by simp only [hs, hr, c2]; decide)]
          have := DQ_nn (l := s) (t := t - x.1 / y.2) hk (by have := (q_le h3).2 (Rat.not_lt.1 c2); grind)
          grind
      · have c2 : ¬ t * (y.2 : Rat) < x.1 := by grind
        rw [if_neg (by simp only [hr, c1]; decide), if_neg (by simp only [hs, hr, c2]; decide)]
        have a1 := (q_le h2).2 (Rat.not_lt.1 c1)
        have a2 : (x.1 : Rat) / y.2 ≤ x.1 / x.2 := by
          rw [q_le h3]
          have e : (x.1 : Rat) / x.2 * x.2 = x.1 := Rat.div_mul_cancel (by grind)
          have : 0 ≤ (x.1 : Rat) / x.2 := by
            rcases Rat.le_total (a := 0) (b := (x.1 : Rat) / x.2) with h | h
            · exact h
            · have := Rat.mul_le_mul_of_nonneg_right h (Rat.le_of_lt h2); grind
          have := Rat.mul_le_mul_of_nonneg_left hvw this
          grind
        have b1 := DQ_t (l := r) (s := t - x.1 / x.2) (t := t - x.1 / y.2) h.tl (by grind) (by grind)
        have b2 := DQ_v (l := r) (m := s) (t := t - x.1 / y.2) h.tl hwr (by grind)
        grind
def LQ : Ts → Rat → Rat
  | [], _ => 0
  | x :: r, d => if r = [] ∨ d ≤ (x.1 : Rat) then d / x.2 else x.1 / x.2 + LQ r (d - x.1)
theorem div_nn {a v : Rat} (ha : 0 ≤ a) (hv : 0 < v) : 0 ≤ a / v := by
  have e : a / v * v = a := Rat.div_mul_cancel (by grind)
  refine Rat.not_lt.1 fun h => ?_
  have := Rat.mul_lt_mul_of_pos_right h hv
  grind
theorem div_le {a v w : Rat} (ha : 0 ≤ a) (hv : 0 < v) (hw : v ≤ w) : a / w ≤ a / v := by
  have h3 : 0 < w := by grind
  rw [q_le h3]
  have e : a / v * v = a := Rat.div_mul_cancel (by grind)
  have := Rat.mul_le_mul_of_nonneg_left hw (div_nn ha hv)
  grind
theorem LQ_v : ∀ {l m : Ts} {d : Rat}, okV l → le2 l m → 0 ≤ d → LQ m d ≤ LQ l d
  | [], [], _, _, _, _ => Rat.le_refl
  | [], _ :: _, _, _, h, _ => h.elim
  | _ :: _, [], _, _, h, _ => h.elim
  | x :: r, y :: s, d, h, hw, hd => by
    have hx := h x (.head _)
    obtain ⟨hxy, hwx, hwr⟩ := hw
    have hs : s = [] ↔ r = [] := by cases r <;> cases s <;> simp_all [le2]
    have h1 := iR hx.1
    have h2 := iR hx.2
    have hvw : (x.2 : Rat) ≤ y.2 := by exact_mod_cast hwx
    rw [LQ, LQ, ← hxy]
    simp only [hs]
    split
    · exact div_le hd h2 hvw
    · rename_i hc
      have hc : ¬ d ≤ (x.1 : Rat) := fun h => hc (.inr h)
      have a1 := div_le (a := x.1) (Rat.le_of_lt h1) h2 hvw
      have a2 := LQ_v (l := r) (m := s) (d := d - x.1) h.tl hwr (by grind)
      grind
theorem natsub {a b : Nat} (h : b ≤ a) : ((a - b : Nat) : Rat) = (a : Rat) - b := by
  have : ((a - b + b : Nat) : Rat) = (a : Rat) := by rw [Nat.sub_add_cancel h]
  rw [Rat.natCast_add] at this
  grind
theorem qV_eq {a b : Nat} {r : Rat} (hb : 0 < b) (h : (a : Rat) = r * b) : qV (a, b) = r := by
  have e := qV_mul (q := (a, b)) hb
  have b1 := nR hb
  have : (qV (a, b) - r) * (b : Rat) = 0 := by grind
  rcases Rat.mul_eq_zero.1 this with h | h
  · grind
  · grind
theorem lyQ_v {t v : Int} (ht : 0 ≤ t) (hv : 1 ≤ v) : qV (lyQ t v) = (t : Rat) / v := by
  rw [lyQ, qV, ratN ht, ratN (by omega)]
/-- Layers with chosen speeds. -/
abbrev tsL (v : Dv → Int) (l : List Dv) : Ts := l.map fun x => (x.1, v x)
theorem deepS_v {v : Dv → Int} {T : Nat} : ∀ {l : List Dv} {p : Qt} {top : Nat}, okV (tsL v l) → l ≠ [] → 0 < p.2 → p.1 ≤ T * p.2 → qV (deepS v T l p top) = top + DQ (tsL v l) (T - qV p)
  | [], _, _, _, h, _, _ => absurd rfl h
  | x :: r, p, top, h, _, hp, hT => by
    have hx : 1 ≤ x.1 ∧ 1 ≤ v x := h (x.1, v x) (.head _)
    have h1 := iR hx.1
    have h2 := iR hx.2
    have ho : 0 < (lyQ x.1 (v x)).2 := by simp only [lyQ]; omega
    have hv := plusQ_v (o := lyQ x.1 (v x)) hp ho
    have hP := plusQ_pos (o := lyQ x.1 (v x)) hp ho
    rw [lyQ_v (by omega) hx.2] at hv
    have hq := qV_mul hp
    have hpp := nR hp
    have hc : T * (plusQ p (lyQ x.1 (v x))).2 < (plusQ p (lyQ x.1 (v x))).1 ↔ ((T : Rat) - qV p) * v x < x.1 := by
      have e1 := qV_mul hP
      have e2 := nR hP
      have e3 : (x.1 : Rat) / v x * v x = x.1 := Rat.div_mul_cancel (by grind)
      constructor
      · intro hh
        have hh : ((T * (plusQ p (lyQ x.1 (v x))).2 : Nat) : Rat) < ((plusQ p (lyQ x.1 (v x))).1 : Rat) := by exact_mod_cast hh
        rw [Rat.natCast_mul, ← e1] at hh
        have h5 : (T : Rat) < qV (plusQ p (lyQ x.1 (v x))) := Rat.lt_of_mul_lt_mul_right hh (Rat.le_of_lt e2)
        have h6 : (T : Rat) - qV p < x.1 / v x := by grind
        have := Rat.mul_lt_mul_of_pos_right h6 h2
        rwa [e3] at this
      · intro hh
        rw [← e3] at hh
        have h6 : (T : Rat) - qV p < x.1 / v x := Rat.lt_of_mul_lt_mul_right hh (Rat.le_of_lt h2)
        have h5 : (T : Rat) < qV (plusQ p (lyQ x.1 (v x))) := by grind
        have := Rat.mul_lt_mul_of_pos_right h5 e2
        rw [e1] at this
        exact_mod_cast this
    have hm : tsL v r = [] ↔ r = [] := List.map_eq_nil_iff
    rw [deepS, tsL, List.map_cons, DQ]
    simp only [hm]
    by_cases hr : r = [] ∨ T * (plusQ p (lyQ x.1 (v x))).2 < (plusQ p (lyQ x.1 (v x))).1
    · rw [if_pos hr, if_pos (hr.imp_right hc.1)]
      refine qV_eq hp ?_
      rw [Rat.natCast_add, Rat.natCast_mul, Rat.natCast_mul, natsub hT, Rat.natCast_mul, ratN (by omega)]
      grind
    · rw [if_neg hr, if_neg (fun hh => hr (hh.imp_right hc.2))]
      have hr1 : r ≠ [] := fun h => hr (.inl h)
      rw [deepS_v (l := r) h.tl hr1 hP (Nat.le_of_not_lt fun h => hr (.inr h)), hv, Rat.natCast_add, ratN (by omega)]
      have : (T : Rat) - (qV p + x.1 / v x) = T - qV p - x.1 / v x := by grind
      rw [this]; grind
theorem lateS_v {v : Dv → Int} : ∀ {l : List Dv} {d : Int} {q : Qt}, okV (tsL v l) → l ≠ [] → 0 < q.2 → 0 ≤ d → qV (lateS v l d q) = qV q + LQ (tsL v l) d
  | [], _, _, _, h, _, _ => absurd rfl h
  | x :: r, d, q, h, _, hq, hd => by
    have hx : 1 ≤ x.1 ∧ 1 ≤ v x := h (x.1, v x) (.head _)
    have h1 := iR hx.1
    have h2 := iR hx.2
    have key : ∀ a : Int, 0 ≤ a → qV (plusQ q (lyQ a (v x))) = qV q + (a : Rat) / v x := fun a ha => by
      rw [plusQ_v hq (by simp only [lyQ]; omega), lyQ_v ha hx.2]
    have kp : ∀ a : Int, 0 < (plusQ q (lyQ a (v x))).2 := fun a => plusQ_pos hq (by simp only [lyQ]; omega)
    have kz : ∀ (l : List Dv) (q : Qt), okV (tsL v l) → 0 < q.2 → qV (lateS v l 0 q) = qV q := by
      intro l
      induction l with
      | nil => intro q _ _; rfl
      | cons y l ih =>
        intro q hk hq
        have hy : 1 ≤ y.1 ∧ 1 ≤ v y := hk (y.1, v y) (.head _)
        have e : latePart (l = []) y.1 0 = 0 := by rw [latePart]; split <;> omega
        rw [lateS, e, Int.sub_zero, ih _ hk.tl (plusQ_pos hq (by simp only [lyQ]; omega)), plusQ_v hq (by simp only [lyQ]; omega), lyQ_v (by omega) hy.2]
        grind
    have hm : tsL v r = [] ↔ r = [] := List.map_eq_nil_iff
    rw [lateS, tsL, List.map_cons, LQ]
    simp only [hm]
    by_cases hr : r = []
    · have e : latePart (r = []) x.1 d = d := by rw [latePart, if_pos hr]; omega
      rw [e, if_pos (.inl hr), Int.sub_self, kz r _ h.tl (kp d), key d hd]
    · by_cases c : d ≤ x.1
      · have e : latePart (r = []) x.1 d = d := by rw [latePart, if_neg hr]; omega
        have c' : (d : Rat) ≤ x.1 := by exact_mod_cast c
        rw [e, if_pos (.inr c'), Int.sub_self, kz r _ h.tl (kp d), key d hd]
      · have e : latePart (r = []) x.1 d = x.1 := by rw [latePart, if_neg hr]; omega
        have c' : ¬ (d : Rat) ≤ x.1 := fun hh => c (by exact_mod_cast hh)
        rw [e, if_neg (by simp only [hr, c']; decide), lateS_v (l := r) h.tl hr (kp _) (by omega), key _ (by omega), Rat.intCast_sub]
        grind
theorem flo_le {q : Qt} {d : Nat} (h : 0 < q.2) (hq : qV q ≤ d) : q.1 / q.2 ≤ d := by
  have e := qV_mul h
  have hp := nR h
  have := Rat.mul_le_mul_of_nonneg_right hq (Rat.le_of_lt hp)
  rw [e] at this
  have : q.1 ≤ d * q.2 := by exact_mod_cast this
  exact Nat.div_le_of_le_mul (by rw [Nat.mul_comm]; exact this)
theorem le_cei {q : Qt} {d : Nat} (h : 0 < q.2) (hq : (d : Rat) ≤ qV q) : d ≤ (q.1 + q.2 - 1) / q.2 := by
  have e := qV_mul h
  have hp := nR h
  have := Rat.mul_le_mul_of_nonneg_right hq (Rat.le_of_lt hp)
  rw [e] at this
  have : d * q.2 ≤ q.1 := by exact_mod_cast this
  rw [Nat.le_div_iff_mul_le h]; omega
theorem flo_v {q : Qt} (h : 0 < q.2) : ((q.1 / q.2 : Nat) : Rat) ≤ qV q := by
  have e := qV_mul h
  have hp := nR h
  have : (q.1 / q.2) * q.2 ≤ q.1 := Nat.div_mul_le_self _ _
  have : ((q.1 / q.2 : Nat) : Rat) * q.2 ≤ q.1 := by exact_mod_cast this
  rw [← e] at this
  exact Rat.le_of_mul_le_mul_right this hp
theorem cei_v {q : Qt} (h : 0 < q.2) : qV q ≤ (((q.1 + q.2 - 1) / q.2 : Nat) : Rat) := by
  have e := qV_mul h
  have hp := nR h
  have h1 : q.1 + q.2 - 1 < ((q.1 + q.2 - 1) / q.2 + 1) * q.2 := Nat.lt_mul_of_div_lt (Nat.lt_succ_self _) h
  have : q.1 ≤ ((q.1 + q.2 - 1) / q.2) * q.2 := by rw [Nat.add_mul, Nat.one_mul] at h1; omega
  have : (q.1 : Rat) ≤ (((q.1 + q.2 - 1) / q.2 : Nat) : Rat) * q.2 := by exact_mod_cast this
  rw [← e] at this
  exact Rat.le_of_mul_le_mul_right this hp
end Go.Pw

set_option linter.unusedSimpArgs false
set_option linter.unusedVariables false
namespace Go.Pw
set_option maxRecDepth 2000
open Go Go.Proofs A1 A2 A3 A4
theorem lysE_e {l : List Dv} {k : Nat} (h0 : cntE l.length 6 = 0) (h : ∀ i, i < k → lyE (l.getD i (0, 0, 0)) = 0) (hk : k < l.length) (hx : ¬ lyE (l.getD k (0, 0, 0)) = 0) : lysE l = ((k : Int), lyE (l.getD k (0, 0, 0))) := by
  have : ∀ j, j ≤ k → eachE lyE 0 l = eachE lyE j (l.drop j) := fun j => by
    induction j with
    | zero => intro _; simp
    | succ j ih => intro hj; rw [ih (by omega), eachE_drop _ (0, 0, 0) l j (by omega), if_pos (h j (by omega))]
  rw [lysE, if_pos h0, this k (Nat.le_refl _), eachE_drop _ (0, 0, 0) l k hk, if_neg hx]
theorem lysE_z {l : List Dv} (h0 : cntE l.length 6 = 0) (h : ∀ i, i < l.length → lyE (l.getD i (0, 0, 0)) = 0) : lysE l = (0, 0) := by
  have h1 : (lysE l).2 = 0 := by
    rw [lysE, if_pos h0]
    refine eachE_ok.2 fun x hx => ?_
    obtain ⟨i, hi, rfl⟩ := List.getElem_of_mem hx
    have := h i hi
    rwa [List.getD_eq_getElem?_getD, List.getElem?_eq_getElem hi] at this
  have h2 : (lysE l).1 = 0 := by
    rw [lysE, if_pos h0] at h1 ⊢
    exact eachE_fst h1
  exact Prod.ext h2 h1
theorem C21 {l : List Dv} : PFD Try.prog 21 [.c (trs l)] (.tup [vi .i64 (lysE l).1, vi .i64 (lysE l).2]) := by
  by_cases h0 : l.length = 0
  · have e : lysE l = (0, 10) := by
      have : l = [] := List.length_eq_zero_iff.1 h0
      subst this; rfl
    rw [e]
    refine pi2 fn21 ?_
    (repeat' first | (refine Owe.same ?_; first | refine Owe.o ?_ | refine Owe.mk ?_ ?_) | (refine Fork.same ?_; (first | refine fkY ?_ | refine fkF ?_ | ((first | refine fkD ?_ ?_ | refine fkN ?_ ?_ | refine fkM ?_ ?_) <;> intro h))) | ((first | refine OpsL.same ?_ | refine OpsDL.same ?_); first | refine pK C6 rfl rfl ?_) | refine MvQ.stay ?_)
    (refine rqK rfl ?_; (repeat' first | exact rfl | (refine qS ?_; constructor)))
  · by_cases h1 : l.length ≤ 6
    · have hc : cntE l.length 6 = 0 := by rw [cntE, fst2, unl0 (by decide), unl0 (by decide)]; omega
      obtain ⟨q, hq⟩ : ∃ q, q = lysE l := ⟨_, rfl⟩
      rw [← hq]
      refine pi2 fn21 ?_
      (repeat' first | (refine Owe.same ?_; first | refine Owe.o ?_ | refine Owe.mk ?_ ?_) | (refine Fork.same ?_; (first | refine fkY ?_ | refine fkF ?_ | ((first | refine fkD ?_ ?_ | refine fkN ?_ ?_ | refine fkM ?_ ?_) <;> intro h))) | ((first | refine OpsL.same ?_ | refine OpsDL.same ?_); first | refine pK C6 rfl rfl ?_) | refine MvQ.stay ?_)
      refine Sat.lp0 (fun k : Nat => [(4, vi .i64 k), (0, .c (trs l))]) (fun k => k ≤ l.length ∧ ∀ i, i < k → lyE (l.getD i (0, 0, 0)) = 0) (fun k => l.length - k) 0 ⟨Nat.zero_le _, fun i hi => by omega⟩ (by ((first | refine qen ?_ | refine qvs ?_ | refine qeq ?_ | refine qst ?_ | refine qv ?_ | refine qc ?_ | refine qe ?_ | refine qcs ?_ | skip); (repeat' first | exact rfl | (refine qS ?_; constructor)))) ?_
      intro k hk
      refine Fork.dec (fun hlt => ?_) (fun hlt => ?_)
      · have hlt : k < l.length := by omega
        obtain ⟨x, hx⟩ : ∃ x, x = l.getD k (0, 0, 0) := ⟨_, rfl⟩
        have e2 : ¬ lyOk x → q = ((k : Int), 2) := fun h => by
          have : lyE x = 2 := by rw [lyE, fst_c (by rw [unl, decide_eq_false h]; decide), unl, decide_eq_false h]; rfl
          rw [hq, lysE_e hc hk.2 hlt (by rw [← hx, this]; decide), ← hx, this]
        have e9 : lyOk x → ¬ x.2.1 ≤ x.2.2 → q = ((k : Int), 9) := fun h h' => by
          have : lyE x = 9 := by rw [lyE, show unl (lyOk x) 2 = 0 from (unl0 (by decide)).2 h, fst_z, fst_c (by rw [unl, decide_eq_false h']; decide), unl, decide_eq_false h']; rfl
          rw [hq, lysE_e hc hk.2 hlt (by rw [← hx, this]; decide), ← hx, this]
        rw [hx] at e2 e9
        (repeat' first | (refine Owe.same ?_; first | refine Owe.o ?_ | refine Owe.mk ?_ ?_) | (refine Fork.same ?_; (first | refine fkD ?_ ?_ | refine fkN ?_ ?_ | refine fkM ?_ ?_) <;> intro h) | ((first | refine OpsL.same ?_ | refine OpsDL.same ?_); first | refine pK C6 rfl rfl ?_) | refine MvQ.stay ?_)
        · rw [e2 fun hh => h hh.1]
          (refine rqK rfl ?_; (repeat' first | exact rfl | (refine qS ?_; constructor)))
        · rw [e2 fun hh => h hh.2.1]
          (refine rqK rfl ?_; (repeat' first | exact rfl | (refine qS ?_; constructor)))
        · rw [e2 fun hh => h hh.2.2]
          (refine rqK rfl ?_; (repeat' first | exact rfl | (refine qS ?_; constructor)))
        · rename_i h3 h4 h5
          rw [e9 ⟨h3, h4, h5⟩ (Int.not_le.2 h)]
          (refine rqK rfl ?_; (repeat' first | exact rfl | (refine qS ?_; constructor)))
        · rename_i h3 h4 h5
          refine again0 (k + 1) ⟨hlt, fun i hi => ?_⟩ (by omega) (by ((first | refine qen ?_ | refine qvs ?_ | refine qeq ?_ | refine qst ?_ | refine qv ?_ | refine qc ?_ | refine qe ?_ | refine qcs ?_ | skip); (repeat' first | exact rfl | (refine qS ?_; constructor))))
          rcases Nat.lt_succ_iff_lt_or_eq.1 hi with h9 | rfl
          · exact hk.2 i h9
          · exact lyE_ok.2 ⟨⟨h3, h4, h5⟩, Int.not_lt.1 h⟩
      · have : q = (0, 0) := hq.trans (lysE_z hc fun i hi => hk.2 i (by omega))
        subst this
        (repeat' first | (refine Owe.same ?_; first | refine Owe.o ?_ | refine Owe.mk ?_ ?_) | (refine Fork.same ?_; (first | refine fkY ?_ | refine fkF ?_ | ((first | refine fkD ?_ ?_ | refine fkN ?_ ?_ | refine fkM ?_ ?_) <;> intro h))) | ((first | refine OpsL.same ?_ | refine OpsDL.same ?_); first | refine pK C6 rfl rfl ?_) | refine MvQ.stay ?_)
        (refine rqK rfl ?_; (repeat' first | exact rfl | (refine qS ?_; constructor)))
    · have e : lysE l = (0, 8) := by
        rw [lysE]
        have h2 : cntE l.length 6 = 8 := by
          rw [cntE, fstE, if_pos ((unl0 (by decide)).2 (by omega)), fstE, unl, decide_eq_false (by omega)]; rfl
        rw [h2]; rfl
      rw [e]
      refine pi2 fn21 ?_
      (repeat' first | (refine Owe.same ?_; first | refine Owe.o ?_ | refine Owe.mk ?_ ?_) | (refine Fork.same ?_; (first | refine fkY ?_ | refine fkF ?_ | ((first | refine fkD ?_ ?_ | refine fkN ?_ ?_ | refine fkM ?_ ?_) <;> intro h))) | ((first | refine OpsL.same ?_ | refine OpsDL.same ?_); first | refine pK C6 rfl rfl ?_) | refine MvQ.stay ?_)
      (refine rqK rfl ?_; (repeat' first | exact rfl | (refine qS ?_; constructor)))
end Go.Pw

set_option linter.unusedSimpArgs false
set_option linter.unusedVariables false
set_option maxHeartbeats 1000000
namespace Go.Pw
set_option maxRecDepth 2000
open Go Go.Proofs A1 A2 A3 A4
/-- The chosen speed of a layer. -/
def vF (fast : Bool) (x : Dv) : Int := if fast = true then x.2.2 else x.2.1
theorem LyOk.v {l : List Dv} (h : LyOk l) (fast : Bool) {i : Nat} (hi : i < l.length) : (1 ≤ (l.getD i (0, 0, 0)).1 ∧ (l.getD i (0, 0, 0)).1 ≤ 10000) ∧ 1 ≤ vF fast (l.getD i (0, 0, 0)) ∧ vF fast (l.getD i (0, 0, 0)) ≤ 100 := by
  obtain ⟨⟨h1, h2, h3⟩, h4⟩ := h.ok i hi
  cases fast with
  | true => exact ⟨h1, h3⟩
  | false => exact ⟨h1, h2⟩
theorem LyOk.okv {l : List Dv} (h : LyOk l) (fast : Bool) : okV (tsL (vF fast) l) := fun x hx => by
  obtain ⟨y, hy, rfl⟩ := List.mem_map.1 hx
  obtain ⟨i, hi, rfl⟩ := List.getElem_of_mem hy
  have := h.v fast hi
  rw [List.getD_eq_getElem?_getD, List.getElem?_eq_getElem hi] at this
  exact ⟨this.1.1, this.2.1⟩
theorem DQ_0' : ∀ {l : Ts}, okV l → DQ l 0 = 0
  | [], _ => rfl
  | x :: r, h => by
    have hx := h x (.head _)
    have h1 := iR hx.1
    rw [DQ, if_pos (.inr (by rw [Rat.zero_mul]; exact h1)), Rat.zero_mul]
end Go.Pw

set_option linter.unusedSimpArgs false
set_option linter.unusedVariables false
set_option maxHeartbeats 1000000
namespace Go.Pw
set_option maxRecDepth 2000
open Go Go.Proofs A1 A2 A3 A4
end Go.Pw

set_option linter.unusedSimpArgs false
set_option linter.unusedVariables false
namespace Go.Pw
set_option maxRecDepth 2000
open Go Go.Proofs A1 A2 A3 A4
theorem fstK_none {f : Nat → Bool} {n : Nat} : ∀ {r : Nat}, r ≤ n → (fstK f n r = none ↔ ∀ k, n - r ≤ k → k < n → f k = false)
  | 0, _ => ⟨fun _ k h1 h2 => by omega, fun _ => rfl⟩
  | r + 1, hr => by
    rw [fstK]
    cases h : f (n - (r + 1)) with
    | true =>
      rw [if_pos rfl]
      exact ⟨fun hh => ((by cases hh)), fun hh => by rw [hh (n - (r + 1)) (Nat.le_refl _) (by omega)] at h; cases h⟩
    | false =>
      rw [if_neg (by decide), fstK_none (r := r) (by omega)]
      constructor
      · intro hh k h1 h2
        rcases Nat.lt_or_eq_of_le h1 with h3 | rfl
        · exact hh k (by omega) h2
        · exact h
      · intro hh k h1 h2; exact hh k (by omega) h2
theorem prR_none {f : Nat → Nat → Bool} {n : Nat} : ∀ {r : Nat}, r ≤ n → (prR f n r = none ↔ ∀ i, n - r ≤ i → i < n → ∀ k, i ≤ k → k < n → f i k = false)
  | 0, _ => ⟨fun _ k h1 h2 => by omega, fun _ => rfl⟩
  | r + 1, hr => by
    rw [prR]
    have hk := fstK_none (f := f (n - (r + 1))) (n := n) (r := r + 1) hr
    cases h : fstK (f (n - (r + 1))) n (r + 1) with
    | some k =>
      rw [h] at hk
      refine ⟨fun hh => ((by cases hh)), fun hh => ?_⟩
      have := hk.2 fun k h1 h2 => hh (n - (r + 1)) (Nat.le_refl _) (by omega) k h1 h2
      cases this
    | none =>
      have hk := hk.1 h
      show prR f n r = none ↔ _
      rw [prR_none (r := r) (by omega)]
      constructor
      · intro hh i h1 h2 k h3 h4
        rcases Nat.lt_or_eq_of_le h1 with h5 | rfl
        · exact hh i (by omega) h2 k h3 h4
        · exact hk k h3 h4
      · intro hh i h1 h2; exact hh i (by omega) h2
theorem prB_none {l : List Dv} {t : Tn} : prB l t = none ↔ ∀ k, k < l.length → itB l t.1 k = false ∧ ∀ i, i < k → bpB l t.2 i k t.1 = false := by
  rw [prB, prR_none (Nat.le_refl _), Nat.sub_self]
  constructor
  · intro h k hk
    refine ⟨?_, fun i hi => ?_⟩
    · have := h k (Nat.zero_le _) hk k (Nat.le_refl _) hk
      rwa [blB_ii] at this
    · have := h i (Nat.zero_le _) (by omega) k (by omega) hk
      rwa [blB_ik hi] at this
  · intro h i _ hi k hik hk
    rcases Nat.lt_or_eq_of_le hik with h1 | rfl
    · rw [blB_ik h1]; exact (h k hk).2 i h1
    · rw [blB_ii]; exact (h i hi).1
theorem frR_some {l : List Dv} {c : Nat} {o : List Int} (hD : DvOk l) (hc : 0 < c ∧ c ≤ 40) (h : frR l c = some o) : TnOk l ((c : Int), o) ∧ prB l ((c : Int), o) = none := by
  have hlen := frR_len h
  rw [frR] at h
  split at h
  · cases h
  rename_i hit
  obtain ⟨h1, h2, h3, h4⟩ := grS_sound h
  refine ⟨⟨hD, by simp only; omega, hlen, h3 fun i hi => by cases hi⟩, prB_none.2 fun k hk => ⟨?_, fun i hi => ?_⟩⟩
  · rw [Bool.eq_false_iff]; intro hb; exact hit (List.any_eq_true.2 ⟨k, List.mem_range.2 hk, hb⟩)
  · exact h4 k (Nat.zero_le _) (by rw [hlen]; exact hk) i hi
theorem stT_spec {l : List Dv} : ∀ {r c : Nat}, if (stT l r c).2 = true then ∃ k o, c ≤ k ∧ k < c + r ∧ frR l k = some o ∧ (stT l r c).1 = ((k : Int), o) ∧ ∀ j, c ≤ j → j < k → frR l j = none else ∀ k, c ≤ k → k < c + r → frR l k = none
  | 0, c => by
    rw [stT, if_neg (by decide)]
    intro k h1 h2; omega
  | r + 1, c => by
    rw [stT]
    cases hf : frR l c with
    | some o =>
      simp only [if_true]
      exact ⟨c, o, Nat.le_refl _, by omega, hf, rfl, fun j h1 h2 => by omega⟩
    | none =>
      have ih := stT_spec (l := l) (r := r) (c := c + 1)
      simp only
      split
      · rename_i h
        rw [if_pos h] at ih
        obtain ⟨k, o, h1, h2, h3, h4, h5⟩ := ih
        refine ⟨k, o, by omega, by omega, h3, h4, fun j hj1 hj2 => ?_⟩
        rcases Nat.lt_or_eq_of_le hj1 with h6 | rfl
        · exact h5 j h6 hj2
        · exact hf
      · rename_i h
        rw [if_neg h] at ih
        intro k h1 h2
        rcases Nat.lt_or_eq_of_le h1 with h6 | rfl
        · exact ih k h6 (by omega)
        · exact hf
end Go.Pw

set_option linter.unusedSimpArgs false
set_option linter.unusedVariables false
set_option maxHeartbeats 4000000
namespace Go.Pw
set_option maxRecDepth 2000
open Go Go.Proofs A1 A2 A3 A4
theorem LQ_nn : ∀ {l : Ts} {d : Rat}, okV l → 0 ≤ d → 0 ≤ LQ l d
  | [], _, _, _ => Rat.le_refl
  | x :: r, d, h, hd => by
    have hx := h x (.head _)
    have h1 := iR hx.1
    have h2 := iR hx.2
    rw [LQ]
    split
    · exact div_nn hd h2
    · rename_i c
      have c2 : ¬ d ≤ (x.1 : Rat) := fun hh => c (.inr hh)
      have := LQ_nn (l := r) (d := d - x.1) h.tl (by grind)
      have := div_nn (Rat.le_of_lt h1) h2
      grind
/-- In the time to a depth that depth is gone through. -/
theorem DQ_LQ : ∀ {l : Ts} {d : Rat}, okV l → l ≠ [] → 0 ≤ d → DQ l (LQ l d) = d
  | [], _, _, h, _ => absurd rfl h
  | x :: r, d, h, _, hd => by
    have hx := h x (.head _)
    have h1 := iR hx.1
    have h2 := iR hx.2
    have hdc : ∀ a : Rat, a / x.2 * x.2 = a := fun a => Rat.div_mul_cancel (by grind)
    rw [LQ]
    by_cases hr : r = []
    · rw [if_pos (.inl hr), DQ, if_pos (.inl hr), hdc]
    · by_cases c : d ≤ (x.1 : Rat)
      · rw [if_pos (.inr c), DQ, hdc]
        by_cases c2 : d < (x.1 : Rat)
        · rw [if_pos (.inr c2)]
        · have e : d = x.1 := by grind
          rw [if_neg (by simp only [hr, c2]; decide), e]
          have z : (x.1 : Rat) / x.2 - x.1 / x.2 = 0 := by grind
          rw [z, DQ_0' h.tl]; grind
      · rw [if_neg (by simp only [hr, c]; decide), DQ]
        have hn := LQ_nn (l := r) (d := d - x.1) h.tl (by grind)
        have e : ((x.1 : Rat) / x.2 + LQ r (d - x.1)) * x.2 = x.1 + LQ r (d - x.1) * x.2 := by rw [Rat.add_mul, hdc]
        have hm := Rat.mul_nonneg hn (Rat.le_of_lt h2)
        have c3 : ¬ ((x.1 : Rat) / x.2 + LQ r (d - x.1)) * x.2 < x.1 := by rw [e]; grind
        rw [if_neg (by simp only [hr, c3]; decide)]
        have e2 : (x.1 : Rat) / x.2 + LQ r (d - x.1) - x.1 / x.2 = LQ r (d - x.1) := by grind
        rw [e2, DQ_LQ h.tl hr (by grind)]; grind
theorem le2_lh : ∀ {l : List Dv}, (∀ x ∈ l, x.2.1 ≤ x.2.2) → le2 (tsL lo l) (tsL hi l)
  | [], _ => trivial
  | x :: l, h => ⟨rfl, h x (.head _), le2_lh fun y hy => h y (.tail _ hy)⟩
theorem heard_ab {l : List Dv} {D : Int} (hO : LyOk l) (hD : 0 ≤ D ∧ D ≤ 100000) {a b : Nat} (ha : a = (lateS hi l D (0, 1)).1 / (lateS hi l D (0, 1)).2) (hb : b = ((lateS lo l D (0, 1)).1 + (lateS lo l D (0, 1)).2 - 1) / (lateS lo l D (0, 1)).2) : a ≤ b := by
  have hn := hO.n
  have d1 := lateS_bd (sp := lo) l 0 D (0, 1) (fun x hx => by have := hO.mem hx; simp only [lo]; omega) (by omega) (by decide) (by decide) (by simp) hD.1 hD.2
  have d2 := lateS_bd (sp := hi) l 0 D (0, 1) (fun x hx => by have := hO.mem hx; simp only [hi]; omega) (by omega) (by decide) (by decide) (by simp) hD.1 hD.2
  have hne : l ≠ [] := fun h => by rw [h] at hn; exact absurd hn.1 (by decide)
  have q0 : qV (0, 1) = 0 := qV_eq (by decide) (by rw [Rat.zero_mul]; rfl)
  have v1 := lateS_v (v := lo) (l := l) (d := D) (q := (0, 1)) (hO.okv false) hne (by decide) hD.1
  have v2 := lateS_v (v := hi) (l := l) (d := D) (q := (0, 1)) (hO.okv true) hne (by decide) hD.1
  rw [q0, Rat.zero_add] at v1 v2
  have okl : okV (tsL lo l) := hO.okv false
  have l2 := le2_lh fun x hx => (hO.mem hx).2
  have hD0 : (0 : Rat) ≤ (D : Rat) := by exact_mod_cast hD.1
  have hLL := LQ_v okl l2 hD0
  have f1 : (a : Rat) ≤ LQ (tsL hi l) D := by rw [ha, ← v2]; exact flo_v d2.1
  have f2 : LQ (tsL lo l) D ≤ (b : Rat) := by rw [hb, ← v1]; exact cei_v d1.1
  have : (a : Rat) ≤ b := Rat.le_trans f1 (Rat.le_trans hLL f2)
  exact_mod_cast this
/-- The times to a depth, and the depths after them. -/
theorem heard_b {l : List Dv} {D : Int} (hO : LyOk l) (hD : 0 ≤ D ∧ D ≤ 100000) {a b : Nat} (ha : a = (lateS hi l D (0, 1)).1 / (lateS hi l D (0, 1)).2) (hb : b = ((lateS lo l D (0, 1)).1 + (lateS lo l D (0, 1)).2 - 1) / (lateS lo l D (0, 1)).2) (h5 : b ≤ 100000) :
    a ≤ b ∧ (deepS lo a l (0, 1) 0).1 / (deepS lo a l (0, 1) 0).2 ≤ D.toNat ∧ D.toNat ≤ ((deepS hi b l (0, 1) 0).1 + (deepS hi b l (0, 1) 0).2 - 1) / (deepS hi b l (0, 1) 0).2 := by
  have hn := hO.n
  have d1 := lateS_bd (sp := lo) l 0 D (0, 1) (fun x hx => by have := hO.mem hx; simp only [lo]; omega) (by omega) (by decide) (by decide) (by simp) hD.1 hD.2
  have d2 := lateS_bd (sp := hi) l 0 D (0, 1) (fun x hx => by have := hO.mem hx; simp only [hi]; omega) (by omega) (by decide) (by decide) (by simp) hD.1 hD.2
  have hne : l ≠ [] := fun h => by rw [h] at hn; exact absurd hn.1 (by decide)
  have q0 : qV (0, 1) = 0 := qV_eq (by decide) (by rw [Rat.zero_mul]; rfl)
  have v1 := lateS_v (v := lo) (l := l) (d := D) (q := (0, 1)) (hO.okv false) hne (by decide) hD.1
  have v2 := lateS_v (v := hi) (l := l) (d := D) (q := (0, 1)) (hO.okv true) hne (by decide) hD.1
  rw [q0, Rat.zero_add] at v1 v2
  have okl : okV (tsL lo l) := hO.okv false
  have okh : okV (tsL hi l) := hO.okv true
  have l2 := le2_lh fun x hx => (hO.mem hx).2
  have hD0 : (0 : Rat) ≤ (D : Rat) := by exact_mod_cast hD.1
  have hLL := LQ_v okl l2 hD0
  have nel : tsL lo l ≠ [] := by intro h; rw [tsL, List.map_eq_nil_iff] at h; exact hne h
  have neh : tsL hi l ≠ [] := by intro h; rw [tsL, List.map_eq_nil_iff] at h; exact hne h
  have f1 : (a : Rat) ≤ LQ (tsL hi l) D := by rw [ha, ← v2]; exact flo_v d2.1
  have f2 : LQ (tsL lo l) D ≤ (b : Rat) := by rw [hb, ← v1]; exact cei_v d1.1
  have hab : a ≤ b := by
    have : (a : Rat) ≤ b := Rat.le_trans f1 (Rat.le_trans hLL f2)
    exact_mod_cast this
  have a0 : (0 : Rat) ≤ (a : Rat) := by exact_mod_cast Nat.zero_le a
  have b0 : (0 : Rat) ≤ (b : Rat) := by exact_mod_cast Nat.zero_le b
  have e1 := deepS_bd (sp := lo) (T := a) (by omega) l 0 (0, 1) 0 (fun x hx => by have := hO.mem hx; simp only [lo]; omega) (by omega) (by decide) (by decide) (by simp) (by simp)
  have e2 := deepS_bd (sp := hi) (T := b) (by omega) l 0 (0, 1) 0 (fun x hx => by have := hO.mem hx; simp only [hi]; omega) (by omega) (by decide) (by decide) (by simp) (by simp)
  have w1 := deepS_v (v := lo) (T := a) (l := l) (p := (0, 1)) (top := 0) okl hne (by decide) (by simp)
  have w2 := deepS_v (v := hi) (T := b) (l := l) (p := (0, 1)) (top := 0) okh hne (by decide) (by simp)
  have z0 : ((0 : Nat) : Rat) = 0 := rfl
  rw [q0, z0, Rat.zero_add, show (a : Rat) - 0 = a by grind] at w1
  rw [q0, z0, Rat.zero_add, show (b : Rat) - 0 = b by grind] at w2
  have eD : ((D.toNat : Nat) : Rat) = (D : Rat) := ratN hD.1
  refine ⟨hab, flo_le e1.1 ?_, le_cei e2.1 ?_⟩
  · rw [w1, eD]
    have g1 := DQ_v okl l2 a0
    have g2 := DQ_t okh a0 f1
    rw [DQ_LQ okh neh hD0] at g2
    exact Rat.le_trans g1 g2
  · rw [w2, eD]
    have g1 := DQ_v okl l2 b0
    have g2 := DQ_t okl (LQ_nn okl hD0) f2
    rw [DQ_LQ okl nel hD0] at g2
    exact Rat.le_trans g2 g1
/-- A device that listens until an echo is back hears no other one send that disturbs it. -/
theorem quiet {l : List Dv} {c : Int} {st : List Int} {i k : Nat} (hD : DvOk l) (hO : TnOk l (c, st)) (hp : prB l (c, st) = none) (hi : i < l.length) (hk : k < l.length) (hne : i ≠ k) (hd : dist (l.getD i (0, 0, 0)) (l.getD k (0, 0, 0)) = true)
    {t : Int} (h1 : st.getD i 0 ≤ t) (h2 : t < st.getD i 0 + win (l.getD i (0, 0, 0))) : win (l.getD k (0, 0, 0)) ≤ (t - st.getD k 0) % c := by
  refine Int.not_lt.1 fun hlt => ?_
  have hc := hO.c
  have hln := hO.n
  simp only at hc hln
  have hsi := hO.s i (by show i < st.length; omega)
  have hsk := hO.s k (by show k < st.length; omega)
  simp only at hsi hsk
  have hiw := ((prB_none.1 hp) i hi).1
  have hiw : win (l.getD i (0, 0, 0)) ≤ c := by
    have := of_decide_eq_false hiw
    simp only at this; omega
  have hmod : ∀ s : Int, (t % c - s) % c = (t - s) % c := fun s => by rw [Int.sub_emod, Int.emod_emod_of_dvd t (Int.dvd_refl c), ← Int.sub_emod]
  have ht0 := Int.emod_nonneg t (show c ≠ 0 by omega)
  have ht1 := Int.emod_lt_of_pos t hc.1
  have en : (((t % c).toNat : Nat) : Int) = t % c := by omega
  have wi : inW (l.getD i (0, 0, 0)) (st.getD i 0) c ((t % c).toNat : Nat) = true := by
    rw [inW, decide_eq_true_eq, en, hmod, Int.emod_eq_of_lt (by omega) (by omega)]; omega
  have wk : inW (l.getD k (0, 0, 0)) (st.getD k 0) c ((t % c).toNat : Nat) = true := by
    rw [inW, decide_eq_true_eq, en, hmod]; exact hlt
  rcases Nat.lt_or_gt_of_ne hne with h | h
  · have hb := ((prB_none.1 hp) k hk).2 i h
    rw [bpB, hd, Bool.true_and] at hb
    have := (mtB_iff (hD.d i hi) (hD.d k hk) hc hsi hsk).2 ⟨(t % c).toNat, by omega, wi, wk⟩
    rw [this] at hb; cases hb
  · have hb := ((prB_none.1 hp) i hi).2 k h
    have hd' : dist (l.getD k (0, 0, 0)) (l.getD i (0, 0, 0)) = true := by
      have := of_decide_eq_true hd
      exact decide_eq_true (by omega)
    rw [bpB, hd', Bool.true_and] at hb
    have := (mtB_iff (hD.d k hk) (hD.d i hi) hc hsk hsi).2 ⟨(t % c).toNat, by omega, wk, wi⟩
    rw [this] at hb; cases hb
end Go.Pw

set_option linter.unusedSimpArgs false
set_option linter.unusedVariables false
set_option maxHeartbeats 2000000
namespace Go.Pw
set_option maxRecDepth 2000
open Go Go.Proofs A1 A2 A3 A4
theorem C13 {l : List Dv} {t : Tn} : (DvOk l ∧ t.2.length ≤ 1000000) → PFD Try.prog 13 [.c (trs l), tv t] (vi .i64 (biE l t)) := fun ⟨hD, htl⟩ => by
  obtain ⟨c, st⟩ := t
  simp only at htl
  have hd : (dvsE l).2 = 0 := dvsE_ok.2 hD
  have hn := hD.n
  obtain ⟨q, hq⟩ : ∃ q, q = biE l (c, st) := ⟨_, rfl⟩
  rw [← hq]
  rw [biE, hd, fst_z] at hq
  simp only at hq
  by_cases h0 : cyE c = 0
  · have hc : 1 ≤ c ∧ c ≤ 40 := (unl0 (by decide)).1 h0
    rw [h0, fst_z] at hq
    by_cases hlen : (st.length : Int) = l.length
    · rw [show unl ((st.length : Int) = l.length) 10 = 0 from (unl0 (by decide)).2 hlen, fst_z, fst_nil, if_pos rfl] at hq
      refine pi1 fn13 ?_
      (repeat' first | (refine Owe.same ?_; first | refine Owe.o ?_ | refine Owe.mk ?_ ?_) | (refine Fork.same ?_; (first | refine fkY ?_ | refine fkF ?_ | ((first | refine fkD ?_ ?_ | refine fkN ?_ ?_ | refine fkM ?_ ?_) <;> intro h))) | ((first | refine OpsL.same ?_ | refine OpsDL.same ?_); first | refine oK C31 rfl rfl rfl ?_) | refine MvQ.stay ?_)
      refine Sat.lp0 (fun k : Nat => [(6, vi .i64 k), (0, .c (trs l)), (3, .c (.rp [dI c, .sl 1 st.length fun i => r1 (st.getD i 0)]))]) (fun k => k ≤ l.length ∧ ∀ i, i < k → stE c (st.getD i 0) = 0) (fun k => l.length - k) 0 ⟨Nat.zero_le _, fun i hi => by omega⟩ (by ((first | refine qen ?_ | refine qvs ?_ | refine qeq ?_ | refine qst ?_ | refine qv ?_ | refine qc ?_ | refine qe ?_ | refine qcs ?_ | skip); (repeat' first | exact rfl | (refine qS ?_; constructor)))) ?_
      intro k hk
      refine Fork.dec (fun hlt => ?_) (fun hlt => ?_)
      · have hlt : k < l.length := by omega
        (repeat' first | (refine Owe.same ?_; first | refine Owe.o ?_ | refine Owe.mk ?_ ?_) | (refine Fork.same ?_; (first | refine fkD ?_ ?_ | refine fkN ?_ ?_ | refine fkM ?_ ?_) <;> intro h) | ((first | refine OpsL.same ?_ | refine OpsDL.same ?_); first | refine pK C6 rfl rfl ?_) | refine MvQ.stay ?_)
        · have h2 : q = 2 := by
            rw [hq]
            exact each2 (stE_02 c) ⟨st.getD k 0, getD_mem 0 (by omega), fun hh => h ((unl0 (by decide)).1 hh)⟩
          rw [h2]
          (refine rqK rfl ?_; (repeat' first | exact rfl | (refine qS ?_; constructor)))
        · refine again0 (k + 1) ⟨hlt, fun i hi => ?_⟩ (by omega) (by ((first | refine qen ?_ | refine qvs ?_ | refine qeq ?_ | refine qst ?_ | refine qv ?_ | refine qc ?_ | refine qe ?_ | refine qcs ?_ | skip); (repeat' first | exact rfl | (refine qS ?_; constructor))))
          rcases Nat.lt_succ_iff_lt_or_eq.1 hi with h9 | rfl
          · exact hk.2 i h9
          · exact (unl0 (by decide)).2 h
      · have h2 : q = 0 := by
          rw [hq]
          refine eachE_ok.2 fun x hx => ?_
          obtain ⟨i, hi, rfl⟩ := List.getElem_of_mem hx
          have := hk.2 i (by omega)
          rwa [List.getD_eq_getElem?_getD, List.getElem?_eq_getElem hi, Option.getD_some] at this
        rw [h2]
        (repeat' first | (refine Owe.same ?_; first | refine Owe.o ?_ | refine Owe.mk ?_ ?_) | (refine Fork.same ?_; (first | refine fkD ?_ ?_ | refine fkN ?_ ?_ | refine fkM ?_ ?_) <;> intro h) | refine MvQ.stay ?_)
        (refine rqK rfl ?_; (repeat' first | exact rfl | (refine qS ?_; constructor)))
    · have e : unl ((st.length : Int) = l.length) 10 = 10 := by rw [unl, decide_eq_false hlen]; rfl
      rw [e, if_neg (by decide)] at hq
      have : q = 10 := hq
      rw [this]
      refine pi1 fn13 ?_
      (repeat' first | (refine Owe.same ?_; first | refine Owe.o ?_ | refine Owe.mk ?_ ?_) | (refine Fork.same ?_; (first | refine fkY ?_ | refine fkF ?_ | ((first | refine fkD ?_ ?_ | refine fkN ?_ ?_ | refine fkM ?_ ?_) <;> intro h))) | ((first | refine OpsL.same ?_ | refine OpsDL.same ?_); first | refine oK C31 rfl rfl rfl ?_) | refine MvQ.stay ?_)
      (refine rqK rfl ?_; (repeat' first | exact rfl | (refine qS ?_; constructor)))
  · rw [fst_c h0, if_neg h0] at hq
    rw [hq]
    refine pi1 fn13 ?_
    (repeat' first | (refine Owe.same ?_; first | refine Owe.o ?_ | refine Owe.mk ?_ ?_) | (refine Fork.same ?_; (first | refine fkY ?_ | refine fkF ?_ | ((first | refine fkD ?_ ?_ | refine fkN ?_ ?_ | refine fkM ?_ ?_) <;> intro h))) | ((first | refine OpsL.same ?_ | refine OpsDL.same ?_); first | refine oK C31 rfl rfl rfl ?_) | refine MvQ.stay ?_)
    (refine rqK rfl ?_; (repeat' first | exact rfl | (refine qS ?_; constructor)))
end Go.Pw

set_option linter.unusedSimpArgs false
set_option linter.unusedVariables false
set_option maxHeartbeats 16000000
namespace Go.Pw
set_option maxRecDepth 2000
open Go Go.Proofs A1 A2 A3 A4
theorem C4 : PFD Try.prog 4 [] (vbl true) := by
  have c1 := C11 (l := exD) (by decide)
  have c5 := C17 (s := exS) (by decide)
  rw [show shR exD = ((9, [0, 5, 0]), 0) by decide +kernel] at c1
  rw [show (scE exS).2 = 0 by decide +kernel, if_pos rfl, show (bestK (odC exS) exS.2.2.length (2 ^ exS.2.2.length)).l = [0] by decide +kernel] at c5
  have c7 := C19 (a := (9, [0, 5, 0])) (b := (9, [0, 5, 0])) (by decide)
  have c10 := C20 (l := [0]) (m := [0]) (by decide)
  rw [decide_eq_true rfl] at c7 c10
  refine pi1 fn4 ?_
  (repeat' first | (refine Owe.same ?_; first | refine Owe.o ?_ | refine Owe.mk ?_ ?_) | (refine Fork.same ?_; (first | refine fkY ?_ | refine fkF ?_ | ((first | refine fkD ?_ ?_ | refine fkN ?_ ?_ | refine fkM ?_ ?_) <;> intro h))) | ((first | refine OpsL.same ?_ | refine OpsDL.same ?_); first | refine pK C16 rfl rfl ?_ | refine pK C18 rfl rfl ?_ | refine pK c1 rfl rfl ?_ | refine pK c5 rfl rfl ?_ | refine pK c7 rfl rfl ?_) | refine MvQ.stay ?_)
  ((first | refine OpsL.same ?_ | refine OpsDL.same ?_); first | refine pK c10 rfl rfl ?_)
  (repeat' first | (refine Owe.same ?_; first | refine Owe.o ?_ | refine Owe.mk ?_ ?_) | (refine Fork.same ?_; (first | refine fkY ?_ | refine fkF ?_ | ((first | refine fkD ?_ ?_ | refine fkN ?_ ?_ | refine fkM ?_ ?_) <;> intro h))) | ((first | refine OpsL.same ?_ | refine OpsDL.same ?_); first | refine pK c7 rfl rfl ?_) | refine MvQ.stay ?_)
  (refine rqK rfl ?_; (repeat' first | exact rfl | (refine qS ?_; constructor)))
theorem C5 {l : List Dv} : PFD Try.prog 5 [.c (trs l)] (vi .i64 (lysE l).2) := by
  have c := C21 (l := l)
  generalize lysE l = q at *
  refine pi1 fn5 ?_
  (repeat' first | (refine Owe.same ?_; first | refine Owe.o ?_ | refine Owe.mk ?_ ?_) | (refine Fork.same ?_; (first | refine fkY ?_ | refine fkF ?_ | ((first | refine fkD ?_ ?_ | refine fkN ?_ ?_ | refine fkM ?_ ?_) <;> intro h))) | ((first | refine OpsL.same ?_ | refine OpsDL.same ?_); first | refine oK c rfl rfl rfl ?_) | refine MvQ.stay ?_)
  (refine rqK rfl ?_; (repeat' first | exact rfl | (refine qS ?_; constructor)))
/-- The devices that listen until the echo is back. -/
abbrev hdL (bs : List Int) (h : Int) : List Dv := bs.map fun b => (b % 4, 1 + b % 3, 2 * h)
theorem hd_ok {bs : List Int} {h : Int} (hb : 0 < bs.length ∧ bs.length ≤ 3) (hh : 0 ≤ h ∧ h ≤ 5) : DvOk (hdL bs h) := by
  refine ⟨by simp; omega, fun i hi => ?_⟩
  have hi' : i < bs.length := by simpa using hi
  rw [List.getD_eq_getElem?_getD, List.getElem?_map, List.getElem?_eq_getElem hi']
  simp only [Option.map_some, Option.getD_some]
  have h4 := Int.emod_nonneg bs[i] (show (4 : Int) ≠ 0 by decide)
  have h5 := Int.emod_lt_of_pos bs[i] (show (0 : Int) < 4 by decide)
  have h6 := Int.emod_nonneg bs[i] (show (3 : Int) ≠ 0 by decide)
  have h7 := Int.emod_lt_of_pos bs[i] (show (0 : Int) < 3 by decide)
  simp only [dvOk]
  omega
theorem C3 {bs : List Int} {l : List Dv} {D : Int} (hw : ∀ b ∈ bs, w64 b) : PFD Try.prog 3 [.c (ints bs), .c (trs l), vi .i64 D] (vbl true) := by
  have c5 := C5 (l := l)
  have c6 := C6 (n := D) (lo := 0) (hi := 100000)
  by_cases hb : 0 < bs.length ∧ bs.length ≤ 3
  rotate_left
  · refine pi1 fn3 ?_
    (repeat' first | (refine Owe.same ?_; first | refine Owe.o ?_ | refine Owe.mk ?_ ?_) | (refine Fork.same ?_; (first | refine fkY ?_ | refine fkF ?_ | ((first | refine fkD ?_ ?_ | refine fkN ?_ ?_ | refine fkM ?_ ?_) <;> intro h))) | ((first | refine OpsL.same ?_ | refine OpsDL.same ?_); first | refine oK C4 rfl rfl rfl ?_) | refine MvQ.stay ?_)
    all_goals first | (exfalso; omega) | (refine rqK rfl ?_; (repeat' first | exact rfl | (refine qS ?_; constructor)))
  by_cases h0 : (lysE l).2 = 0
  rotate_left
  · generalize (lysE l).2 = e at *
    refine pi1 fn3 ?_
    (repeat' first | (refine Owe.same ?_; first | refine Owe.o ?_ | refine Owe.mk ?_ ?_) | (refine Fork.same ?_; (first | refine fkY ?_ | refine fkF ?_ | ((first | refine fkD ?_ ?_ | refine fkN ?_ ?_ | refine fkM ?_ ?_) <;> intro h))) | ((first | refine OpsL.same ?_ | refine OpsDL.same ?_); first | refine oK C4 rfl rfl rfl ?_ | refine oK c5 rfl rfl rfl ?_) | refine MvQ.stay ?_)
    all_goals first | (exfalso; omega) | exact absurd (by assumption) h0 | (refine rqK rfl ?_; (repeat' first | exact rfl | (refine qS ?_; constructor)))
  rw [h0] at c5
  have hO := lysE_ok h0
  by_cases hD : 0 ≤ D ∧ D ≤ 100000
  rotate_left
  · rw [decide_eq_false hD] at c6
    refine pi1 fn3 ?_
    (repeat' first | (refine Owe.same ?_; first | refine Owe.o ?_ | refine Owe.mk ?_ ?_) | (refine Fork.same ?_; (first | refine fkY ?_ | refine fkF ?_ | ((first | refine fkD ?_ ?_ | refine fkN ?_ ?_ | refine fkM ?_ ?_) <;> intro h))) | ((first | refine OpsL.same ?_ | refine OpsDL.same ?_); first | refine oK C4 rfl rfl rfl ?_ | refine oK c5 rfl rfl rfl ?_ | refine oK c6 rfl rfl rfl ?_) | refine MvQ.stay ?_)
    all_goals first | (exfalso; omega) | (refine rqK rfl ?_; (repeat' first | exact rfl | (refine qS ?_; constructor)))
  rw [decide_eq_true hD] at c6
  have hn := hO.n
  have c8 := C8 (l := l) (by omega)
  have c7 := C7 (l := l) (D := D) (by omega)
  have hE : ∀ n m, lsE l n m = unl (0 ≤ n ∧ n ≤ m) 2 := fun n m => by rw [lsE, h0, fst_z]; unfold fstE; split <;> simp_all [fstE]
  have eD : lsE l D 100000 = 0 := by rw [hE]; exact (unl0 (by decide)).2 hD
  rw [tmS, if_pos eD] at c7
  obtain ⟨a, ha⟩ : ∃ a, a = (lateS hi l D (0, 1)).1 / (lateS hi l D (0, 1)).2 := ⟨_, rfl⟩
  obtain ⟨b, hbq⟩ : ∃ b, b = ((lateS lo l D (0, 1)).1 + (lateS lo l D (0, 1)).2 - 1) / (lateS lo l D (0, 1)).2 := ⟨_, rfl⟩
  rw [← ha, ← hbq] at c7
  change PFD Try.prog 7 [.c (trs l), vi .i64 D] (.tup [.agg [int (a : Int), int (b : Int)], vi .i64 0]) at c7
  by_cases h5 : b ≤ 5
  rotate_left
  · have hab := heard_ab hO hD ha hbq
    clear ha hbq
    refine pi1 fn3 ?_
    (repeat' first | (refine Owe.same ?_; first | refine Owe.o ?_ | refine Owe.mk ?_ ?_) | (refine Fork.same ?_; (first | refine fkY ?_ | refine fkF ?_ | ((first | refine fkD ?_ ?_ | refine fkN ?_ ?_ | refine fkM ?_ ?_) <;> intro h))) | ((first | refine OpsL.same ?_ | refine OpsDL.same ?_); first | refine oK C4 rfl rfl rfl ?_ | refine oK c5 rfl rfl rfl ?_ | refine oK c6 rfl rfl rfl ?_ | refine oK c7 rfl rfl rfl ?_ | refine oK c8 rfl rfl rfl ?_) | refine MvQ.stay ?_)
    all_goals first | (exfalso; omega) | (refine rqK rfl ?_; (repeat' first | exact rfl | (refine qS ?_; constructor)))
  obtain ⟨hab, hlo, hhi⟩ := heard_b hO hD ha hbq (by omega)
  have c9a := C9 (l := l) (T := a) (by omega)
  have c9b := C9 (l := l) (T := b) (by omega)
  have eA : lsE l a 100000 = 0 := by rw [hE]; exact (unl0 (by decide)).2 ⟨by omega, by omega⟩
  have eB : lsE l b 100000 = 0 := by rw [hE]; exact (unl0 (by decide)).2 ⟨by omega, by omega⟩
  rw [dpS, if_pos eA, Int.toNat_natCast] at c9a
  rw [dpS, if_pos eB, Int.toNat_natCast] at c9b
  generalize (deepS lo a l (0, 1) 0).1 / (deepS lo a l (0, 1) 0).2 = x1 at *
  generalize ((deepS hi a l (0, 1) 0).1 + (deepS hi a l (0, 1) 0).2 - 1) / (deepS hi a l (0, 1) 0).2 = x2 at *
  generalize (deepS lo b l (0, 1) 0).1 / (deepS lo b l (0, 1) 0).2 = y1 at *
  generalize ((deepS hi b l (0, 1) 0).1 + (deepS hi b l (0, 1) 0).2 - 1) / (deepS hi b l (0, 1) 0).2 = y2 at *
  clear ha hbq
  change PFD Try.prog 9 [.c (trs l), vi .i64 (a : Int)] (.tup [.agg [int (x1 : Int), int (x2 : Int)], vi .i64 0]) at c9a
  change PFD Try.prog 9 [.c (trs l), vi .i64 (b : Int)] (.tup [.agg [int (y1 : Int), int (y2 : Int)], vi .i64 0]) at c9b
  have hDD := hd_ok (bs := bs) (h := b) hb ⟨by omega, by omega⟩
  have hdl : (hdL bs b).length = bs.length := by simp
  have hdx : ∀ i, i < (hdL bs b).length → (1 ≤ ((hdL bs b).getD i (0, 0, 0)).2.1 ∧ ((hdL bs b).getD i (0, 0, 0)).2.1 ≤ 3) ∧ ((hdL bs b).getD i (0, 0, 0)).2.2 = 2 * (b : Int) := fun i hi => by
    have hi' : i < bs.length := by simpa using hi
    rw [List.getD_eq_getElem?_getD, List.getElem?_map, List.getElem?_eq_getElem hi']
    have h6 := Int.emod_nonneg bs[i] (show (3 : Int) ≠ 0 by decide)
    have h7 := Int.emod_lt_of_pos bs[i] (show (0 : Int) < 3 by decide)
    show (1 ≤ 1 + bs[i] % 3 ∧ 1 + bs[i] % 3 ≤ 3) ∧ 2 * (b : Int) = 2 * b
    omega
  have c12 := C12 (l := hdL bs b) (by omega)
  have c11 := C11 (l := hdL bs b) (by omega)
  rw [shR_ok hDD] at c11
  have hsp := stT_spec (l := hdL bs b) (r := 40) (c := 1)
  obtain ⟨tt, ht⟩ : ∃ tt, tt = stT (hdL bs b) 40 1 := ⟨_, rfl⟩
  rw [← ht] at c11 hsp
  refine pi1 fn3 ?_
  (repeat' first | (refine Owe.same ?_; first | refine Owe.o ?_ | refine Owe.mk ?_ ?_) | (refine Fork.same ?_; (first | refine fkY ?_ | refine fkF ?_ | ((first | refine fkD ?_ ?_ | refine fkN ?_ ?_ | refine fkM ?_ ?_) <;> intro h))) | ((first | refine OpsL.same ?_ | refine OpsDL.same ?_); first | refine oK C4 rfl rfl rfl ?_ | refine oK c5 rfl rfl rfl ?_ | refine oK c6 rfl rfl rfl ?_ | refine oK c7 rfl rfl rfl ?_ | refine oK c8 rfl rfl rfl ?_) | refine MvQ.stay ?_)
  (repeat' first | (refine Owe.same ?_; first | refine Owe.o ?_ | refine Owe.mk ?_ ?_) | (refine Fork.same ?_; (first | refine fkY ?_ | refine fkF ?_ | ((first | refine fkD ?_ ?_ | refine fkN ?_ ?_ | refine fkM ?_ ?_) <;> intro h))) | ((first | refine OpsL.same ?_ | refine OpsDL.same ?_); first | refine oK c8 rfl rfl rfl ?_ | refine oK c9a rfl rfl rfl ?_ | refine oK c9b rfl rfl rfl ?_) | refine MvQ.stay ?_)
  refine Sat.nilS 13 36 3 (fun _ => r3 (0, 0, 0)) rfl ?_
  refine Sat.lp (fun k : Nat => ⟨[(14, vi .i64 k), (13, .c (.ms 1 (hdL (bs.take k) b).length)), (7, .c (.bp 0 0)), (0, .c (ints bs))], [(0, .box [int (a : Int), int (b : Int)]), (1, rowv 36 3 r3 (0, 0, 0) (hdL (bs.take k) b))], 2⟩) (fun k => k ≤ bs.length) (fun k => bs.length - k) 0 [0, 19] (Nat.zero_le _) ?_ ?_
  · (refine qis ?_ ?_ <;> (repeat' first | exact rfl | (refine qS ?_; constructor)))
  intro k hk
  by_cases hlt : k < bs.length
  · have hwk : w64 (bs.getD ((k : Int)).toNat 0) := by rw [Int.toNat_natCast]; exact hw _ (getD_mem _ hlt)
    have d1 := C10 (n := bs.getD ((k : Int)).toNat 0) (b := 4) ⟨hwk, by decide, by decide⟩
    have d2 := C10 (n := bs.getD ((k : Int)).toNat 0) (b := 3) ⟨hwk, by decide, by decide⟩
    have h6 := Int.emod_nonneg (bs.getD ((k : Int)).toNat 0) (show (3 : Int) ≠ 0 by decide)
    have h7 := Int.emod_lt_of_pos (bs.getD ((k : Int)).toNat 0) (show (0 : Int) < 3 by decide)
    have hlen : (hdL (bs.take k) b).length = k := by simp; omega
    have hsucc : hdL (bs.take (k + 1)) b = hdL (bs.take k) b ++ [(bs.getD ((k : Int)).toNat 0 % 4, 1 + bs.getD ((k : Int)).toNat 0 % 3, 2 * (b : Int))] := by
      rw [Int.toNat_natCast, take_app bs k hlt, hdL, List.map_append]; rfl
    (repeat' first | (refine Owe.same ?_; first | refine Owe.o ?_ | refine Owe.mk ?_ ?_) | (refine Fork.same ?_; (first | refine fkY ?_ | refine fkF ?_ | ((first | refine fkD ?_ ?_ | refine fkN ?_ ?_ | refine fkM ?_ ?_) <;> intro h))) | ((first | refine OpsL.same ?_ | refine OpsDL.same ?_); first | refine oK d1 rfl rfl rfl ?_ | refine oK d2 rfl rfl rfl ?_) | refine MvQ.stay ?_)
    refine again (k + 1) [0, 17] hlt (by omega) ?_
    rw [hsucc]
    (refine qis ?_ ?_ <;> (repeat' first | exact rfl | (refine qS ?_; constructor)))
    · simp
  · have hkk : k = bs.length := by omega
    subst hkk
    rw [List.take_length]
    (repeat' first | (refine Owe.same ?_; first | refine Owe.o ?_ | refine Owe.mk ?_ ?_) | (refine Fork.same ?_; (first | refine fkD ?_ ?_ | refine fkN ?_ ?_ | refine fkM ?_ ?_) <;> intro h))
    · exfalso; omega
    · refine MvQ.frz 13 1 rfl rfl (Nat.le_refl _) ?_
      generalize hdL bs b = d at *
      by_cases h2 : tt.2 = true
      rotate_left
      · rw [if_neg h2] at c11
        obtain ⟨⟨t1, t2⟩, t3⟩ := tt
        (repeat' first | (refine Owe.same ?_; first | refine Owe.o ?_ | refine Owe.mk ?_ ?_) | (refine Fork.same ?_; (first | refine fkY ?_ | refine fkF ?_ | ((first | refine fkD ?_ ?_ | refine fkN ?_ ?_ | refine fkM ?_ ?_) <;> intro h))) | ((first | refine OpsL.same ?_ | refine OpsDL.same ?_); first | refine oK c12 rfl rfl rfl ?_ | refine oK c11 rfl rfl rfl ?_) | refine MvQ.stay ?_)
        (refine rqK rfl ?_; (repeat' first | exact rfl | (refine qS ?_; constructor)))
      rw [if_pos h2] at c11 hsp
      obtain ⟨c, o, hc1, hc2, hfr, htt, _⟩ := hsp
      obtain ⟨hTO, hTp⟩ := frR_some hDD ⟨by omega, by omega⟩ hfr
      rw [htt] at c11
      change PFD Try.prog 11 [.c (trs d)] (.tup [.agg [int (c : Int), ints o], vi .i64 0]) at c11
      have c13 := C13 (l := d) (t := ((c : Int), o)) ⟨hDD, by have := hTO.n; simp only at this; show o.length ≤ _; omega⟩
      rw [biE_ok.2 hTO] at c13
      change PFD Try.prog 13 [.c (trs d), .agg [int (c : Int), ints o]] (vi .i64 0) at c13
      have hol : o.length = d.length := hTO.n
      have hso := hTO.s
      simp only at hso
      (repeat' first | (refine Owe.same ?_; first | refine Owe.o ?_ | refine Owe.mk ?_ ?_) | (refine Fork.same ?_; (first | refine fkY ?_ | refine fkF ?_ | ((first | refine fkD ?_ ?_ | refine fkN ?_ ?_ | refine fkM ?_ ?_) <;> intro h))) | ((first | refine OpsL.same ?_ | refine OpsDL.same ?_); first | refine oK c12 rfl rfl rfl ?_ | refine oK c11 rfl rfl rfl ?_ | refine oK c13 rfl rfl rfl ?_) | refine MvQ.stay ?_)
      refine Sat.lp (fun i : Nat => ⟨[(17, vi .i64 i), (15, .c (.bp 1 0)), (13, .c (trs d)), (7, .c (.bp 0 0))], [(0, .box [int (a : Int), int (b : Int)]), (1, .box [int (c : Int), ints o])], 2⟩) (fun i => i ≤ d.length) (fun i => d.length - i) 0 [0, 2] (Nat.zero_le _) ?_ ?_
      · (refine qis ?_ ?_ <;> (repeat' first | exact rfl | (refine qS ?_; constructor)))
      intro i hi
      by_cases hil : i < d.length
      rotate_left
      · (repeat' first | (refine Owe.same ?_; first | refine Owe.o ?_ | refine Owe.mk ?_ ?_) | (refine Fork.same ?_; (first | refine fkY ?_ | refine fkF ?_ | ((first | refine fkD ?_ ?_ | refine fkN ?_ ?_ | refine fkM ?_ ?_) <;> intro h))) | ((first | refine OpsL.same ?_ | refine OpsDL.same ?_); first | refine oK c8 rfl rfl rfl ?_) | refine MvQ.stay ?_)
        (refine rqK rfl ?_; (repeat' first | exact rfl | (refine qS ?_; constructor)))
      have hS := hso i (by omega)
      have hX := hdx i hil
      have hok := hDD.d i hil
      have hS' : 0 ≤ o.getD ((i : Int)).toNat 0 ∧ o.getD ((i : Int)).toNat 0 < c := by rw [Int.toNat_natCast]; exact hS
      have hX' : (1 ≤ (d.getD ((i : Int)).toNat (0, 0, 0)).2.1 ∧ (d.getD ((i : Int)).toNat (0, 0, 0)).2.1 ≤ 3) ∧ (d.getD ((i : Int)).toNat (0, 0, 0)).2.2 = 2 * (b : Int) := by rw [Int.toNat_natCast]; exact hX
      have c14 := C14 (d := d.getD ((i : Int)).toNat (0, 0, 0)) (by rw [Int.toNat_natCast]; exact hok)
      change PFD Try.prog 14 [tr (d.getD ((i : Int)).toNat (0, 0, 0))] (vi .i64 ((d.getD ((i : Int)).toNat (0, 0, 0)).2.1 + (d.getD ((i : Int)).toNat (0, 0, 0)).2.2)) at c14
      (repeat' first | (refine Owe.same ?_; first | refine Owe.o ?_ | refine Owe.mk ?_ ?_) | (refine Fork.same ?_; (first | refine fkY ?_ | refine fkF ?_ | ((first | refine fkD ?_ ?_ | refine fkN ?_ ?_ | refine fkM ?_ ?_) <;> intro h))) | ((first | refine OpsL.same ?_ | refine OpsDL.same ?_); first | refine oK c14 rfl rfl rfl ?_) | refine MvQ.stay ?_)
      (repeat' first | (refine Owe.same ?_; first | refine Owe.o ?_ | refine Owe.mk ?_ ?_) | (refine Fork.same ?_; (first | refine fkD ?_ ?_ | refine fkN ?_ ?_ | refine fkM ?_ ?_) <;> intro h) | refine MvQ.stay ?_)
      refine Sat.lp (fun k : Nat => ⟨[(20, vi .i64 k), (19, vi .i64 (o.getD ((i : Int)).toNat 0 + (d.getD ((i : Int)).toNat (0, 0, 0)).2.1 - 1 + 2 * (b : Int))), (18, vi .i64 (o.getD ((i : Int)).toNat 0 + 2 * (a : Int))), (17, vi .i64 i), (15, .c (.bp 1 0)), (13, .c (trs d)), (7, .c (.bp 0 0))], [(0, .box [int (a : Int), int (b : Int)]), (1, .box [int (c : Int), ints o])], 2⟩) (fun k => k ≤ d.length) (fun k => d.length - k) 0 [0, 1] (Nat.zero_le _) ?_ ?_
      · (refine qis ?_ ?_ <;> (repeat' first | exact rfl | (refine qS ?_; constructor)))
      intro k hk
      by_cases hkl : k < d.length
      rotate_left
      · (repeat' first | (refine Owe.same ?_; first | refine Owe.o ?_ | refine Owe.mk ?_ ?_) | (refine Fork.same ?_; (first | refine fkY ?_ | refine fkF ?_ | ((first | refine fkD ?_ ?_ | refine fkN ?_ ?_ | refine fkM ?_ ?_) <;> intro h))) | ((first | refine OpsL.same ?_ | refine OpsDL.same ?_); first | refine oK c8 rfl rfl rfl ?_) | refine MvQ.stay ?_)
        refine again (i + 1) [0, 1] hil (by omega) ?_
        (refine qis ?_ ?_ <;> (repeat' first | exact rfl | (refine qS ?_; constructor)))
      have hSk := hso k (by omega)
      have hXk := hdx k hkl
      have hSk' : 0 ≤ o.getD ((k : Int)).toNat 0 ∧ o.getD ((k : Int)).toNat 0 < c := by rw [Int.toNat_natCast]; exact hSk
      have hXk' : (1 ≤ (d.getD ((k : Int)).toNat (0, 0, 0)).2.1 ∧ (d.getD ((k : Int)).toNat (0, 0, 0)).2.1 ≤ 3) ∧ (d.getD ((k : Int)).toNat (0, 0, 0)).2.2 = 2 * (b : Int) := by rw [Int.toNat_natCast]; exact hXk
      have c15 := C15 (a := d.getD ((i : Int)).toNat (0, 0, 0)) (b := d.getD ((k : Int)).toNat (0, 0, 0)) (by rw [Int.toNat_natCast, Int.toNat_natCast]; exact ⟨hok, hDD.d k hkl⟩)
      by_cases hik : k = i
      · subst hik
        (repeat' first | (refine Owe.same ?_; first | refine Owe.o ?_ | refine Owe.mk ?_ ?_) | (refine Fork.same ?_; (first | refine fkY ?_ | refine fkF ?_ | ((first | refine fkD ?_ ?_ | refine fkN ?_ ?_ | refine fkM ?_ ?_) <;> intro h))) | ((first | refine OpsL.same ?_ | refine OpsDL.same ?_); first | refine oK c15 rfl rfl rfl ?_) | refine MvQ.stay ?_)
        all_goals first | (exfalso; omega) | skip
        refine again (k + 1) [0, 1] hkl (by omega) ?_
        (refine qis ?_ ?_ <;> (repeat' first | exact rfl | (refine qS ?_; constructor)))
      rcases hdi : dist (d.getD ((i : Int)).toNat (0, 0, 0)) (d.getD ((k : Int)).toNat (0, 0, 0)) with _ | _
      · rw [hdi] at c15
        (repeat' first | (refine Owe.same ?_; first | refine Owe.o ?_ | refine Owe.mk ?_ ?_) | (refine Fork.same ?_; (first | refine fkY ?_ | refine fkF ?_ | ((first | refine fkD ?_ ?_ | refine fkN ?_ ?_ | refine fkM ?_ ?_) <;> intro h))) | ((first | refine OpsL.same ?_ | refine OpsDL.same ?_); first | refine oK c15 rfl rfl rfl ?_) | refine MvQ.stay ?_)
        refine again (k + 1) [0, 1] hkl (by omega) ?_
        (refine qis ?_ ?_ <;> (repeat' first | exact rfl | (refine qS ?_; constructor)))
      rw [hdi] at c15
      (repeat' first | (refine Owe.same ?_; first | refine Owe.o ?_ | refine Owe.mk ?_ ?_) | (refine Fork.same ?_; (first | refine fkY ?_ | refine fkF ?_ | ((first | refine fkD ?_ ?_ | refine fkN ?_ ?_ | refine fkM ?_ ?_) <;> intro h))) | ((first | refine OpsL.same ?_ | refine OpsDL.same ?_); first | refine oK c15 rfl rfl rfl ?_) | refine MvQ.stay ?_)
      have hwk : w64 (c : Int) := by omega
      refine Sat.lp (fun j : Nat => ⟨[(21, vi .i64 (o.getD ((i : Int)).toNat 0 + 2 * (a : Int) + j)), (20, vi .i64 k), (19, vi .i64 (o.getD ((i : Int)).toNat 0 + (d.getD ((i : Int)).toNat (0, 0, 0)).2.1 - 1 + 2 * (b : Int))), (18, vi .i64 (o.getD ((i : Int)).toNat 0 + 2 * (a : Int))), (17, vi .i64 i), (15, .c (.bp 1 0)), (13, .c (trs d)), (7, .c (.bp 0 0))], [(0, .box [int (a : Int), int (b : Int)]), (1, .box [int (c : Int), ints o])], 2⟩) (fun j => o.getD ((i : Int)).toNat 0 + 2 * (a : Int) + j ≤ o.getD ((i : Int)).toNat 0 + (d.getD ((i : Int)).toNat (0, 0, 0)).2.1 - 1 + 2 * (b : Int) + 1) (fun j => 100 - j) 0 [0, 1] (by omega) ?_ ?_
      · (refine qis ?_ ?_ <;> (repeat' first | exact rfl | (refine qS ?_; constructor)))
        simp
      intro j hj
      by_cases hjl : o.getD ((i : Int)).toNat 0 + 2 * (a : Int) + j ≤ o.getD ((i : Int)).toNat 0 + (d.getD ((i : Int)).toNat (0, 0, 0)).2.1 - 1 + 2 * (b : Int)
      rotate_left
      · (repeat' first | (refine Owe.same ?_; first | refine Owe.o ?_ | refine Owe.mk ?_ ?_) | (refine Fork.same ?_; (first | refine fkY ?_ | refine fkF ?_ | ((first | refine fkD ?_ ?_ | refine fkN ?_ ?_ | refine fkM ?_ ?_) <;> intro h))) | ((first | refine OpsL.same ?_ | refine OpsDL.same ?_); first | refine oK c15 rfl rfl rfl ?_) | refine MvQ.stay ?_)
        refine again (k + 1) [0, 1] hkl (by omega) ?_
        (refine qis ?_ ?_ <;> (repeat' first | exact rfl | (refine qS ?_; constructor)))
      have hq := quiet hDD hTO hTp hil hkl (fun e => hik e.symm) (by rw [Int.toNat_natCast, Int.toNat_natCast] at hdi; exact hdi) (t := o.getD i 0 + 2 * (a : Int) + j) (by omega) (by
        rw [Int.toNat_natCast] at hjl
        show _ < o.getD i 0 + ((d.getD i (0, 0, 0)).2.1 + (d.getD i (0, 0, 0)).2.2)
        omega)
      have hq' : (d.getD ((k : Int)).toNat (0, 0, 0)).2.1 + (d.getD ((k : Int)).toNat (0, 0, 0)).2.2 ≤ (o.getD ((i : Int)).toNat 0 + 2 * (a : Int) + j - o.getD ((k : Int)).toNat 0) % (c : Int) := by
        rw [Int.toNat_natCast, Int.toNat_natCast]; exact hq
      have c10 := C10 (n := o.getD ((i : Int)).toNat 0 + 2 * (a : Int) + j - o.getD ((k : Int)).toNat 0) (b := (c : Int)) ⟨by omega, by omega, by omega⟩
      (repeat' first | (refine Owe.same ?_; first | refine Owe.o ?_ | refine Owe.mk ?_ ?_) | (refine Fork.same ?_; (first | refine fkY ?_ | refine fkF ?_ | ((first | refine fkD ?_ ?_ | refine fkN ?_ ?_ | refine fkM ?_ ?_) <;> intro h))) | ((first | refine OpsL.same ?_ | refine OpsDL.same ?_); first | refine oK c10 rfl rfl rfl ?_) | refine MvQ.stay ?_)
      refine again (j + 1) [0, 1] (by omega) (by omega) ?_
      (refine qis ?_ ?_ <;> (repeat' first | exact rfl | (refine qS ?_; constructor)))
      omega
end Go.Pw

namespace Go.Proofs.Ytggcobcogdhfhaa
open Go.ChangeShapes Go.WideShapes Go.ChangeAt Go.RowKit Go.Pw
theorem Try.own : ownKnob Try.prog.godebug = none := by kernel_rfl
theorem Try.laidOut : laidOutB Try.prog = true := by kernel_rfl
theorem shapes : shAll Try.prog [22, 23, 3] = some [(false, [.sl [.int .i64]]), (false, [.sl [.int .i64, .int .i64, .int .i64]]), (false, [.int .i64])] := by kernel_rfl
theorem law (args : List V) (h : ArgOk [(false, [.sl [.int .i64]]), (false, [.sl [.int .i64, .int .i64, .int .i64]]), (false, [.int .i64])] args) : PFD Try.prog 3 args (vbl true) := by
  match args, h with
  | [v0, v1, v2], ⟨h0, h1, h2, _⟩ =>
    obtain ⟨l0, r0, q0⟩ := arg_ints h0
    obtain ⟨l1, r1, q1⟩ := arg_trs h1
    obtain ⟨l2, rfl, q2⟩ := arg_int h2
    exact PFD.ri (C3 fun b hb => w64_i (q0.2 b hb)) (.cons r0 (.cons r1 (.cons (RI.refl _) .nil)))
set_option maxRecDepth 100000 in
theorem lifted (os : Os) (started : os.Started) (H : Type) (enc : TypeId × Value → H) :
    ReturnsInHanded {} Try.checked os 3 .any (Rows.topSonarHeardSpec.pre6 enc Try.prog Try.f3 Rows.topSonarHeardRow.domain false) (Rows.topSonarHeardSpec.post enc Try.prog Try.f3 false true false false) := by
  refine returnsInHanded_of_change (C := Try.checked) Try.own started (by kernel_rfl) Try.func3
    (ChangeSpec.witness6 (enc := enc) (C := Try.checked) false ⟨#[], #[.slice none 0 0, .slice none 0 0, .int .i64 0], []⟩ 8 (by kernel_rfl) (by kernel_rfl) (by kernel_rfl) (by kernel_rfl)) ?_
  intro W base args ds gs before hval0 hW hcnd _
  exact law_calls (P := Try.prog) (F := Try.f3) (tb := 4) Try.laidOut (by rw [Try.params3]; exact shapes) rfl (fun ds hl => by
    rw [Try.params3] at hl
    match ds, hl with
    | [d0, d1, d2], _ => rfl) (by kernel_rfl) Try.underlying4 law W base args ds gs before trivial hval0 hW
theorem row_holds : Rows.TopSonarHeardSaid :=
  OpenClaim.holds_of_wide 3 Try.f3 rfl rfl rfl rfl rfl rfl rfl ⟨rfl, rfl, rfl, rfl, rfl⟩ rfl rfl rfl rfl rfl (by kernel_rfl) Try.func3 (by kernel_rfl)
    (of_decide_eq_true (by kernel_rfl)) (by unfold Func.isWrapper; rw [if_neg (by decide +kernel)]; exact ⟨rfl, rfl⟩)
    (fun os started H enc _ => lifted os started H enc)
end Go.Proofs.Ytggcobcogdhfhaa
