/- Proved here at the end: the row named in the last theorem, on no condition. -/
import Derived.Test.YtbgikbenhglmkaaSonarTimesC
import Derived.Test.YtbgikbenhglmkaaProg
import Derived.Test.YtbgikbenhglmkaaRows
set_option linter.unusedSimpArgs false
namespace Go.Pw
set_option maxRecDepth 2000
open Go Go.Proofs A1 A2 A3 A4
instance : Mix Try.prog := ⟨⟨by kernel_rfl⟩⟩
theorem C17 {n lo hi : Int} : PFD Try.prog 17 [vi .i64 n, vi .i64 lo, vi .i64 hi] (vbl (decide (lo ≤ n ∧ n ≤ hi))) := by
  refine pi1 fn17 ?_
  (repeat' first | (refine Owe.same ?_; first | refine Owe.o ?_ | refine Owe.mk ?_ ?_) | (refine Fork.same ?_; (first | refine fkD ?_ ?_ | refine fkN ?_ ?_ | refine fkM ?_ ?_) <;> intro h) | refine MvQ.stay ?_)
  · (refine rqK rfl ?_; (repeat' first | exact rfl | (refine qS ?_; constructor))); simp [*]
  · (refine rqK rfl ?_; (repeat' first | exact rfl | (refine qS ?_; constructor))); simp only [decide_eq_false_iff_not]; omega
theorem C50 {n lo hi : Int} : PFD Try.prog 50 [vi .i64 n, vi .i64 lo, vi .i64 hi] (vbl (decide (lo ≤ n ∧ n ≤ hi))) := by
  refine pi1 fn50 ?_
  (repeat' first | (refine Owe.same ?_; first | refine Owe.o ?_ | refine Owe.mk ?_ ?_) | (refine Fork.same ?_; (first | refine fkD ?_ ?_ | refine fkN ?_ ?_ | refine fkM ?_ ?_) <;> intro h) | refine MvQ.stay ?_)
  · (refine rqK rfl ?_; (repeat' first | exact rfl | (refine qS ?_; constructor))); simp [*]
  · (refine rqK rfl ?_; (repeat' first | exact rfl | (refine qS ?_; constructor))); simp only [decide_eq_false_iff_not]; omega
theorem C80 {n : Int} : (-4611686018427387904 ≤ n ∧ n ≤ 4611686018427387904) → PFD Try.prog 80 [vi .i64 n] (vi .i64 (max n (-n))) := fun h => by
  refine pi1 fn80 ?_
  (repeat' first | (refine Owe.same ?_; first | refine Owe.o ?_ | refine Owe.mk ?_ ?_) | (refine Fork.same ?_; (first | refine fkD ?_ ?_ | refine fkN ?_ ?_ | refine fkM ?_ ?_) <;> intro h) | refine MvQ.stay ?_)
  (refine rqK rfl ?_; (repeat' first | exact rfl | (refine qS ?_; constructor)))
theorem C49 {b : Bool} {e : Int} : PFD Try.prog 49 [vbl b, vi .i64 e] (vi .i64 (unb b e)) := by
  refine pi1 fn49 ?_
  (repeat' first | (refine Owe.same ?_; first | refine Owe.o ?_ | refine Owe.mk ?_ ?_) | (refine Fork.same ?_; (first | refine fkD ?_ ?_ | refine fkN ?_ ?_ | refine fkM ?_ ?_) <;> intro h) | refine MvQ.stay ?_)
  · (refine rqK rfl ?_; (repeat' first | exact rfl | (refine qS ?_; constructor))); simp [unb, *]
  · (refine rqK rfl ?_; (repeat' first | exact rfl | (refine qS ?_; constructor))); simp [unb, *]
theorem C47 {l : List Int} : l.length < 4611686018427387904 → PFD Try.prog 47 [.c (ints l)] (vi .i64 (fstE l)) := fun hl => by
  refine pi1 fn47 ?_
  (repeat' first | (refine Owe.same ?_; first | refine Owe.o ?_ | refine Owe.mk ?_ ?_) | (refine Fork.same ?_; (first | refine fkD ?_ ?_ | refine fkN ?_ ?_ | refine fkM ?_ ?_) <;> intro h) | refine MvQ.stay ?_)
  refine Sat.lp0 (fun k : Nat => [(7, vi .i64 k), (6, vi .i64 l.length), (5, .c (ints l))]) (fun k => k ≤ l.length ∧ fstE l = fstE (l.drop k)) (fun k => l.length - k) 0 ⟨Nat.zero_le _, rfl⟩ (by ((first | refine qen ?_ | refine qvs ?_ | refine qeq ?_ | refine qst ?_ | refine qv ?_ | refine qc ?_ | refine qe ?_ | refine qcs ?_ | skip); (repeat' first | exact rfl | (refine qS ?_; constructor)))) ?_
  intro k hk
  (repeat' first | (refine Owe.same ?_; first | refine Owe.o ?_ | refine Owe.mk ?_ ?_) | (refine Fork.same ?_; (first | refine fkD ?_ ?_ | refine fkN ?_ ?_ | refine fkM ?_ ?_) <;> intro h) | refine MvQ.stay ?_)
  · simp only [Int.toNat_natCast] at h
    (refine rqK rfl ?_; (repeat' first | exact rfl | (refine qS ?_; constructor)))
    rw [hk.2, fstE_drop l k (by omega), if_neg h, Int.toNat_natCast]
  · simp only [Int.toNat_natCast] at h
    refine again0 (k + 1) ⟨by omega, ?_⟩ (by omega) (by ((first | refine qen ?_ | refine qvs ?_ | refine qeq ?_ | refine qst ?_ | refine qv ?_ | refine qc ?_ | refine qe ?_ | refine qcs ?_ | skip); (repeat' first | exact rfl | (refine qS ?_; constructor))))
    rw [hk.2, fstE_drop l k (by omega), if_pos h]
  · (refine rqK rfl ?_; (repeat' first | exact rfl | (refine qS ?_; constructor)))
    rw [hk.2, List.drop_of_length_le (by omega)]; rfl
theorem C22 {n b : Int} : (w64 n ∧ 0 < b ∧ Md b) → PFD Try.prog 22 [vi .i64 n, vi .i64 b] (vi .i64 (n % b)) := fun ⟨hn, hb, hb'⟩ => by
  have h5 := tmod_bd (n := n) hb
  refine pi1 fn22 ?_
  (repeat' first | (refine Owe.same ?_; first | refine Owe.o ?_ | refine Owe.mk ?_ ?_) | (refine Fork.same ?_; (first | refine fkD ?_ ?_ | refine fkN ?_ ?_ | refine fkM ?_ ?_) <;> intro h) | refine MvQ.stay ?_)
  · (refine rqK rfl ?_; (repeat' first | exact rfl | (refine qS ?_; constructor))); rw [← mod_eq hb, if_pos h]
  · (refine rqK rfl ?_; (repeat' first | exact rfl | (refine qS ?_; constructor))); rw [← mod_eq hb, if_neg h]
theorem C19 {l m : List Int} : l.length < 4611686018427387904 → PFD Try.prog 19 [.c (ints l), .c (ints m)] (vbl (decide (l = m))) := fun hl => by
  refine pi1 fn19 ?_
  (repeat' first | (refine Owe.same ?_; first | refine Owe.o ?_ | refine Owe.mk ?_ ?_) | (refine Fork.same ?_; (first | refine fkD ?_ ?_ | refine fkN ?_ ?_ | refine fkM ?_ ?_) <;> intro h) | refine MvQ.stay ?_)
  · (refine rqK rfl ?_; (repeat' first | exact rfl | (refine qS ?_; constructor))); simp only [decide_eq_false_iff_not]; intro he; subst he; omega
  · have hlm : l.length = m.length := by omega
    clear h
    refine Sat.lp0 (fun k : Nat => [(5, vi .i64 k), (0, .c (ints l)), (1, .c (ints m))]) (fun k => k ≤ l.length ∧ ∀ i, i < k → l.getD i 0 = m.getD i 0) (fun k => l.length - k) 0 ⟨Nat.zero_le _, fun i hi => by omega⟩ (by ((first | refine qen ?_ | refine qvs ?_ | refine qeq ?_ | refine qst ?_ | refine qv ?_ | refine qc ?_ | refine qe ?_ | refine qcs ?_ | skip); (repeat' first | exact rfl | (refine qS ?_; constructor)))) ?_
    intro k hk
    (repeat' first | (refine Owe.same ?_; first | refine Owe.o ?_ | refine Owe.mk ?_ ?_) | (refine Fork.same ?_; (first | refine fkD ?_ ?_ | refine fkN ?_ ?_ | refine fkM ?_ ?_) <;> intro h) | refine MvQ.stay ?_)
    · simp only [Int.toNat_natCast] at h
      (refine rqK rfl ?_; (repeat' first | exact rfl | (refine qS ?_; constructor))); simp only [decide_eq_false_iff_not]; intro he; subst he; exact h rfl
    · simp only [Int.toNat_natCast] at h
      refine again0 (k + 1) ⟨by omega, fun i hi => ?_⟩ (by omega) (by ((first | refine qen ?_ | refine qvs ?_ | refine qeq ?_ | refine qst ?_ | refine qv ?_ | refine qc ?_ | refine qe ?_ | refine qcs ?_ | skip); (repeat' first | exact rfl | (refine qS ?_; constructor))))
      rcases Nat.lt_succ_iff_lt_or_eq.1 hi with h3 | rfl
      · exact hk.2 i h3
      · exact h
    · (refine rqK rfl ?_; (repeat' first | exact rfl | (refine qS ?_; constructor))); simp only [decide_eq_true_eq]; exact ext_getD 0 hlm fun i hi => hk.2 i (by omega)
abbrev Pr := Int × Int
abbrev gMul (a b : Pr) : Pr := (a.1 * b.1 - a.2 * b.2, a.1 * b.2 + a.2 * b.1)
abbrev gConj (a : Pr) : Pr := (a.1, -a.2)
abbrev gAdd (a b : Pr) : Pr := (a.1 + b.1, a.2 + b.2)
abbrev gNorm (a : Pr) : Int := a.1 * a.1 + a.2 * a.2
abbrev pr (p : Pr) : V := .agg [int p.1, int p.2]
/-- Both parts are at most so great. -/
abbrev pB (n : Int) (p : Pr) : Prop := (-n ≤ p.1 ∧ p.1 ≤ n) ∧ -n ≤ p.2 ∧ p.2 ≤ n
theorem gMul_bd {a b : Pr} {A B : Int} (ha : pB A a) (hb : pB B b) : pB (2 * (A * B)) (gMul a b) := by
  have h1 := mbd ha.1 hb.1
  have h2 := mbd ha.1 hb.2
  have h3 := mbd ha.2 hb.1
  have h4 := mbd ha.2 hb.2
  refine ⟨⟨?_, ?_⟩, ?_, ?_⟩ <;> simp only [gMul] <;> omega
theorem C26 {l : List (Int × Int × Int)} : l.length ≤ 1000000 → PFD Try.prog 26 [.c (trs l)] (.c (trs l)) := fun h => by
  refine pi1 fn26 ?_
  (repeat' first | (refine Owe.same ?_; first | refine Owe.o ?_ | refine Owe.mk ?_ ?_) | (refine Fork.same ?_; (first | refine fkD ?_ ?_ | refine fkN ?_ ?_ | refine fkM ?_ ?_) <;> intro h) | refine MvQ.stay ?_)
  (refine rqK rfl ?_; (repeat' first | exact rfl | (refine qS ?_; constructor)))
/-- The error of a number of items. -/
def cntE (n most : Int) : Int := fstE [unl (0 < n) 10, unl (n ≤ most) 8]
theorem C110 {n m : Int} : PFD Try.prog 110 [vi .i64 n, vi .i64 m] (vi .i64 (cntE n m)) := by
  refine pi1 fn110 ?_
  (repeat' first | (refine Owe.same ?_; first | refine Owe.o ?_ | refine Owe.mk ?_ ?_) | (refine Fork.same ?_; (first | refine fkD ?_ ?_ | refine fkN ?_ ?_ | refine fkM ?_ ?_) <;> intro h) | ((first | refine OpsL.same ?_ | refine OpsDL.same ?_); first | refine pK C49 rfl rfl ?_ | refine pK C47 rfl rfl ?_) | refine MvQ.stay ?_)
  (refine rqK rfl ?_; (repeat' first | exact rfl | (refine qS ?_; constructor)))
end Go.Pw

set_option linter.unusedSimpArgs false
namespace Go.Pw
set_option maxRecDepth 2000
open Go Go.Proofs A1 A2 A3 A4
/-- The first index from k on at which f holds; -1: there is none. -/
def idxI {α : Type} (f : α → Bool) : Int → List α → Int
  | _, [] => -1
  | k, x :: l => if f x = true then k else idxI f (k + 1) l
theorem idxI_drop {α : Type} (f : α → Bool) (d : α) (l : List α) (k : Nat) (h : k < l.length) : idxI f k (l.drop k) = if f (l.getD k d) = true then (k : Int) else idxI f ((k + 1 : Nat) : Int) (l.drop (k + 1)) := by
  rw [List.drop_eq_getElem_cons h, idxI, List.getD_eq_getElem?_getD, List.getElem?_eq_getElem h]
  rfl
theorem idxI_any {α : Type} (f : α → Bool) : ∀ (l : List α) (k : Int), 0 ≤ k → decide (0 ≤ idxI f k l) = l.any f
  | [], k, _ => rfl
  | x :: l, k, hk => by
    rw [idxI, List.any_cons]
    split
    · rename_i h; rw [h, decide_eq_true hk]; rfl
    · rename_i h; rw [idxI_any f l (k + 1) (by omega)]; simp [h]
theorem C109 {z : Pr} : PFD Try.prog 109 [pr z] (vbl (decide (¬ pB 1000 z))) := by
  refine pi1 fn109 ?_
  (repeat' first | (refine Owe.same ?_; first | refine Owe.o ?_ | refine Owe.mk ?_ ?_) | (refine Fork.same ?_; (first | refine fkD ?_ ?_ | refine fkN ?_ ?_ | refine fkM ?_ ?_) <;> intro h) | ((first | refine OpsL.same ?_ | refine OpsDL.same ?_); first | refine pK C50 rfl rfl ?_) | refine MvQ.stay ?_)
  all_goals ((refine rqK rfl ?_; (repeat' first | exact rfl | (refine qS ?_; constructor))); first | (simp only [decide_eq_true_eq]; omega) | (rw [Bool.eq_iff_iff]; simp only [Bool.not_eq_true', decide_eq_true_eq, decide_eq_false_iff_not]; omega))
theorem C125 {g : FuncId} {f : Pr → Bool} (hg : ∀ x : Pr, PFD Try.prog g [pr x] (vbl (f x))) {l : List Pr} : l.length ≤ 1000000 → PFD Try.prog 125 [.c (prs l), .c (.fn g [])] (vi .i64 (idxI f 0 l)) := fun hl => by
  refine pi1 fn125 ?_
  (repeat' first | (refine Owe.same ?_; first | refine Owe.o ?_ | refine Owe.mk ?_ ?_) | (refine Fork.same ?_; (first | refine fkD ?_ ?_ | refine fkN ?_ ?_ | refine fkM ?_ ?_) <;> intro h) | refine MvQ.stay ?_)
  refine Sat.lp0 (fun k : Nat => [(8, vi .i64 k), (7, vi .i64 l.length), (6, .c (prs l)), (0, .c (prs l)), (1, .c (.fn g []))]) (fun k => k ≤ l.length ∧ idxI f 0 l = idxI f k (l.drop k)) (fun k => l.length - k) 0 ⟨Nat.zero_le _, rfl⟩ (by ((first | refine qen ?_ | refine qvs ?_ | refine qeq ?_ | refine qst ?_ | refine qv ?_ | refine qc ?_ | refine qe ?_ | refine qcs ?_ | skip); (repeat' first | exact rfl | (refine qS ?_; constructor)))) ?_
  intro k hk
  (repeat' first | (refine Owe.same ?_; first | refine Owe.o ?_ | refine Owe.mk ?_ ?_) | (refine Fork.same ?_; (first | refine fkD ?_ ?_ | refine fkN ?_ ?_ | refine fkM ?_ ?_) <;> intro h) | ((first | refine OpsL.same ?_ | refine OpsDL.same ?_); first | refine pK (hg _) rfl rfl ?_) | refine MvQ.stay ?_)
  · have e := idxI_drop f (0, 0) l k (by omega)
    have h : f (l.getD k (0, 0)) = true := h
    rw [if_pos h, ← hk.2] at e
    (refine rqK rfl ?_; (repeat' first | exact rfl | (refine qS ?_; constructor))); rw [e]
  · have e := idxI_drop f (0, 0) l k (by omega)
    have h : f (l.getD k (0, 0)) = false := h
    rw [if_neg (by rw [h]; decide), ← hk.2] at e
    exact again0 (k + 1) ⟨by omega, e⟩ (by omega) (by ((first | refine qen ?_ | refine qvs ?_ | refine qeq ?_ | refine qst ?_ | refine qv ?_ | refine qc ?_ | refine qe ?_ | refine qcs ?_ | skip); (repeat' first | exact rfl | (refine qS ?_; constructor))))
  · have e : idxI f 0 l = -1 := by rw [hk.2, List.drop_of_length_le (by omega)]; rfl
    (refine rqK rfl ?_; (repeat' first | exact rfl | (refine qS ?_; constructor))); rw [e]
theorem C108 {g : FuncId} {f : Pr → Bool} (hg : ∀ x : Pr, PFD Try.prog g [pr x] (vbl (f x))) {l : List Pr} : l.length ≤ 1000000 → PFD Try.prog 108 [.c (prs l), .c (.fn g [])] (vbl (l.any f)) := fun hl => by
  refine pi1 fn108 ?_
  (repeat' first | (refine Owe.same ?_; first | refine Owe.o ?_ | refine Owe.mk ?_ ?_) | (refine Fork.same ?_; (first | refine fkD ?_ ?_ | refine fkN ?_ ?_ | refine fkM ?_ ?_) <;> intro h) | ((first | refine OpsL.same ?_ | refine OpsDL.same ?_); first | refine pK (C125 hg hl) rfl rfl ?_) | refine MvQ.stay ?_)
  (refine rqK rfl ?_; (repeat' first | exact rfl | (refine qS ?_; constructor)))
  exact idxI_any f l 0 (Int.le_refl _)
/-- The error of samples. -/
def smE (m : Int) (l : List Pr) : Int := fstE [cntE l.length m, unb (!l.any fun z => decide (¬ pB 1000 z)) 2]
theorem C82 {l : List Pr} {m : Int} : l.length ≤ 1000000 → PFD Try.prog 82 [.c (prs l), vi .i64 m] (vi .i64 (smE m l)) := fun hl => by
  refine pi1 fn82 ?_
  (repeat' first | (refine Owe.same ?_; first | refine Owe.o ?_ | refine Owe.mk ?_ ?_) | (refine Fork.same ?_; (first | refine fkD ?_ ?_ | refine fkN ?_ ?_ | refine fkM ?_ ?_) <;> intro h) | ((first | refine OpsL.same ?_ | refine OpsDL.same ?_); first | refine pK (C108 (fun x => C109 (z := x)) hl) rfl rfl ?_ | refine pK C110 rfl rfl ?_ | refine pK C49 rfl rfl ?_ | refine pK C47 rfl rfl ?_) | refine MvQ.stay ?_)
  (refine rqK rfl ?_; (repeat' first | exact rfl | (refine qS ?_; constructor)))
def osE (T S : List Pr) : Int := fstE [smE 8 T, smE 40 S]
theorem C48 {T S : List Pr} : (T.length ≤ 1000000 ∧ S.length ≤ 1000000) → PFD Try.prog 48 [.c (prs T), .c (prs S)] (vi .i64 (osE T S)) := fun ⟨hT, hS⟩ => by
  refine pi1 fn48 ?_
  (repeat' first | (refine Owe.same ?_; first | refine Owe.o ?_ | refine Owe.mk ?_ ?_) | (refine Fork.same ?_; (first | refine fkD ?_ ?_ | refine fkN ?_ ?_ | refine fkM ?_ ?_) <;> intro h) | ((first | refine OpsL.same ?_ | refine OpsDL.same ?_); first | refine pK C82 rfl rfl ?_ | refine pK C47 rfl rfl ?_) | refine MvQ.stay ?_)
  (refine rqK rfl ?_; (repeat' first | exact rfl | (refine qS ?_; constructor)))
def mt (T S : List Pr) (sh : Nat) : Nat → Pr
  | 0 => (0, 0)
  | k + 1 => gAdd (mt T S sh k) (gMul (gConj (T.getD k (0, 0))) (S.getD (sh + k) (0, 0)))
structure SmOk (T S : List Pr) (sh : Nat) : Prop where
  n : T.length ≤ 8
  m : sh + T.length ≤ S.length
  t : ∀ i, i < T.length → pB 1000 (T.getD i (0, 0))
  s : ∀ i, i < S.length → pB 1000 (S.getD i (0, 0))
theorem mt_bd {T S : List Pr} {sh : Nat} (h : SmOk T S sh) : ∀ k, k ≤ T.length → pB (k * 2000000) (mt T S sh k)
  | 0, _ => by refine ⟨⟨?_, ?_⟩, ?_, ?_⟩ <;> simp [mt]
  | k + 1, hk => by
    have ih := mt_bd h k (by omega)
    have h1 := h.t k (by omega)
    have h2 := h.s (sh + k) (by have := h.m; omega)
    have h3 := gMul_bd (a := gConj (T.getD k (0, 0))) (A := 1000) (B := 1000) (by refine ⟨h1.1, ?_, ?_⟩ <;> simp only [gConj] <;> omega) h2
    simp only [gMul, gConj] at h3
    simp only [mt]
    refine ⟨⟨?_, ?_⟩, ?_, ?_⟩ <;> simp only [gAdd, gMul, gConj] <;> omega
theorem C51 {T S : List Pr} {sh n : Nat} : (SmOk T S sh ∧ T.length ≤ n) → PFD Try.prog 51 [.c (prs T), .c (.d (.sl 2 n fun i => r2 (S.getD (sh + i) (0, 0))))] (.c (.cx (mt T S sh T.length).1 (mt T S sh T.length).2)) := fun ⟨hO, hn⟩ => by
  have hn8 := hO.n
  refine pi1 fn51 ?_
  (repeat' first | (refine Owe.same ?_; first | refine Owe.o ?_ | refine Owe.mk ?_ ?_) | (refine Fork.same ?_; (first | refine fkD ?_ ?_ | refine fkN ?_ ?_ | refine fkM ?_ ?_) <;> intro h) | refine MvQ.stay ?_)
  refine Sat.lp0 (fun k : Nat => [(10, vi .i64 k), (9, vi .i64 T.length), (8, .c (prs T)), (1, .c (.d (.sl 2 n fun i => r2 (S.getD (sh + i) (0, 0))))), (5, .c (.cx (mt T S sh k).1 (mt T S sh k).2))]) (fun k => k ≤ T.length) (fun k => T.length - k) 0 (Nat.zero_le _) (by ((first | refine qen ?_ | refine qvs ?_ | refine qeq ?_ | refine qst ?_ | refine qv ?_ | refine qc ?_ | refine qe ?_ | refine qcs ?_ | skip); (repeat' first | exact rfl | (refine qS ?_; constructor)))) ?_
  intro k hk
  have hb := mt_bd hO k hk
  refine Fork.dec (fun hlt => ?_) (fun hlt => ?_)
  · have hlt : k < T.length := by omega
    have h1 := hO.t k hlt
    have h2 := hO.s (sh + k) (by have := hO.m; omega)
    have m1 := mbd h1.1 h2.1
    have m2 := mbd (a := -(T.getD k (0, 0)).2) (A := 1000) (by omega) h2.2
    have m3 := mbd h1.1 h2.2
    have m4 := mbd (a := -(T.getD k (0, 0)).2) (A := 1000) (by omega) h2.1
    (repeat' first | (refine Owe.same ?_; first | refine Owe.o ?_ | refine Owe.mk ?_ ?_) | (refine Fork.same ?_; (first | refine fkD ?_ ?_ | refine fkN ?_ ?_ | refine fkM ?_ ?_) <;> intro h) | refine MvQ.stay ?_)
    exact again0 (k + 1) hlt (by omega) (by ((first | refine qen ?_ | refine qvs ?_ | refine qeq ?_ | refine qst ?_ | refine qv ?_ | refine qc ?_ | refine qe ?_ | refine qcs ?_ | skip); (repeat' first | exact rfl | (refine qS ?_; constructor))))
  · (repeat' first | (refine Owe.same ?_; first | refine Owe.o ?_ | refine Owe.mk ?_ ?_) | (refine Fork.same ?_; (first | refine fkD ?_ ?_ | refine fkN ?_ ?_ | refine fkM ?_ ?_) <;> intro h) | refine MvQ.stay ?_)
    have : k = T.length := by omega
    subst this
    (refine rqK rfl ?_; (repeat' first | exact rfl | (refine qS ?_; constructor)))
/-- The parts of a match, as numbers. -/
theorem mt_R {T S : List Pr} {sh : Nat} (h : SmOk T S sh) : pB 16000000 (mt T S sh T.length) := by
  have h1 := mt_bd h T.length (Nat.le_refl _)
  have h2 := h.n
  refine ⟨⟨?_, ?_⟩, ?_, ?_⟩ <;> omega
def mxL (a : Int) : List Int → Int
  | [] => a
  | x :: l => mxL (max a x) l
theorem mxL_drop (a : Int) (l : List Int) (k : Nat) (h : k < l.length) : mxL a (l.drop k) = mxL (max a (l.getD k 0)) (l.drop (k + 1)) := by
  rw [List.drop_eq_getElem_cons h, mxL, List.getD_eq_getElem?_getD, List.getElem?_eq_getElem h]
  rfl
theorem mxL_le {l : List Int} : ∀ {a b : Int}, mxL a l ≤ b ↔ a ≤ b ∧ ∀ x ∈ l, x ≤ b := by
  induction l with
  | nil => intro a b; simp [mxL]
  | cons x l ih => intro a b; rw [mxL, ih]; simp only [List.mem_cons, forall_eq_or_imp]; constructor <;> intro h <;> refine ⟨by omega, ?_⟩ <;> first | exact h.2 | exact ⟨by omega, h.2⟩ | exact h.2.2
theorem le_mxL {l : List Int} : ∀ {a : Int}, a ≤ mxL a l := by
  induction l with
  | nil => intro a; exact Int.le_refl _
  | cons x l ih => intro a; rw [mxL]; exact Int.le_trans (by omega) ih
theorem C54 {l : List Int} : (0 < l.length ∧ l.length ≤ 1000000) → PFD Try.prog 54 [.c (ints l)] (vi .i64 (mxL (l.getD 0 0) (l.drop 1))) := fun ⟨h0, hl⟩ => by
  refine pi1 fn54 ?_
  (repeat' first | (refine Owe.same ?_; first | refine Owe.o ?_ | refine Owe.mk ?_ ?_) | (refine Fork.same ?_; (first | refine fkY ?_ | refine fkF ?_ | ((first | refine fkD ?_ ?_ | refine fkN ?_ ?_ | refine fkM ?_ ?_) <;> intro h))) | ((first | refine OpsL.same ?_ | refine OpsDL.same ?_); first | refine oK C50 rfl rfl rfl ?_) | refine MvQ.stay ?_)
  refine Sat.lp0 (fun p : Nat × Int => [(4, vi .i64 (p.1 : Int)), (0, .c (ints l)), (3, vi .i64 p.2)]) (fun p => p.1 ≤ l.length ∧ mxL (l.getD 0 0) (l.drop 1) = mxL p.2 (l.drop p.1)) (fun p => l.length - p.1) (1, l.getD 0 0) ⟨by omega, rfl⟩ (by ((first | refine qen ?_ | refine qvs ?_ | refine qeq ?_ | refine qst ?_ | refine qv ?_ | refine qc ?_ | refine qe ?_ | refine qcs ?_ | skip); (repeat' first | exact rfl | (refine qS ?_; constructor)))) ?_
  intro ⟨k, a⟩ ⟨hk, he⟩
  simp only at hk he
  (repeat' first | (refine Owe.same ?_; first | refine Owe.o ?_ | refine Owe.mk ?_ ?_) | (refine Fork.same ?_; (first | refine fkD ?_ ?_ | refine fkN ?_ ?_ | refine fkM ?_ ?_) <;> intro h) | refine MvQ.stay ?_)
  · refine again0 (k + 1, max a (l.getD k 0)) ⟨by simp only; omega, ?_⟩ (by simp only; omega) (by ((first | refine qen ?_ | refine qvs ?_ | refine qeq ?_ | refine qst ?_ | refine qv ?_ | refine qc ?_ | refine qe ?_ | refine qcs ?_ | skip); (repeat' first | exact rfl | (refine qS ?_; constructor))))
    rw [he]; exact mxL_drop a l k (by omega)
  · (refine rqK rfl ?_; (repeat' first | exact rfl | (refine qS ?_; constructor)))
    rw [he, List.drop_of_length_le (by omega)]; rfl
/-- Whether an index of a slice of numbers holds a number that is at least so great. -/
theorem C53 {m n : Int} : PFD Try.prog 53 [vi .i64 m, .c (.rp [dI n])] (vbl (decide (n ≤ m))) := by
  refine pi1 fn53 ?_
  (repeat' first | (refine Owe.same ?_; first | refine Owe.o ?_ | refine Owe.mk ?_ ?_) | (refine Fork.same ?_; (first | refine fkD ?_ ?_ | refine fkN ?_ ?_ | refine fkM ?_ ?_) <;> intro h) | refine MvQ.stay ?_)
  (refine rqK rfl ?_; (repeat' first | exact rfl | (refine qS ?_; constructor)))
theorem C83 {g : FuncId} {rows : List (List D)} {f : Int → Bool} (hg : ∀ x : Int, PFD Try.prog g (vi .i64 x :: rows.map fun r => .c (.rp r)) (vbl (f x))) {l : List Int} : l.length ≤ 1000000 → PFD Try.prog 83 [.c (ints l), .c (.fnR g rows)] (vi .i64 (idxI f 0 l)) := fun hl => by
  refine pi1 fn83 ?_
  (repeat' first | (refine Owe.same ?_; first | refine Owe.o ?_ | refine Owe.mk ?_ ?_) | (refine Fork.same ?_; (first | refine fkD ?_ ?_ | refine fkN ?_ ?_ | refine fkM ?_ ?_) <;> intro h) | refine MvQ.stay ?_)
  refine Sat.lp0 (fun k : Nat => [(8, vi .i64 k), (7, vi .i64 l.length), (6, .c (ints l)), (0, .c (ints l)), (1, .c (.fnR g rows))]) (fun k => k ≤ l.length ∧ idxI f 0 l = idxI f k (l.drop k)) (fun k => l.length - k) 0 ⟨Nat.zero_le _, rfl⟩ (by ((first | refine qen ?_ | refine qvs ?_ | refine qeq ?_ | refine qst ?_ | refine qv ?_ | refine qc ?_ | refine qe ?_ | refine qcs ?_ | skip); (repeat' first | exact rfl | (refine qS ?_; constructor)))) ?_
  intro k hk
  (repeat' first | (refine Owe.same ?_; first | refine Owe.o ?_ | refine Owe.mk ?_ ?_) | (refine Fork.same ?_; (first | refine fkD ?_ ?_ | refine fkN ?_ ?_ | refine fkM ?_ ?_) <;> intro h) | ((first | refine OpsL.same ?_ | refine OpsDL.same ?_); first | refine pR (hg _) rfl rfl ?_) | refine MvQ.stay ?_)
  · have e := idxI_drop f 0 l k (by omega)
    have h : f (l.getD k 0) = true := h
    rw [if_pos h, ← hk.2] at e
    (refine rqK rfl ?_; (repeat' first | exact rfl | (refine qS ?_; constructor))); rw [e]
  · have e := idxI_drop f 0 l k (by omega)
    have h : f (l.getD k 0) = false := h
    rw [if_neg (by rw [h]; decide), ← hk.2] at e
    exact again0 (k + 1) ⟨by omega, e⟩ (by omega) (by ((first | refine qen ?_ | refine qvs ?_ | refine qeq ?_ | refine qst ?_ | refine qv ?_ | refine qc ?_ | refine qe ?_ | refine qcs ?_ | skip); (repeat' first | exact rfl | (refine qS ?_; constructor))))
  · have e : idxI f 0 l = -1 := by rw [hk.2, List.drop_of_length_le (by omega)]; rfl
    (refine rqK rfl ?_; (repeat' first | exact rfl | (refine qS ?_; constructor))); rw [e]
theorem C52 {g : FuncId} {rows : List (List D)} {f : Int → Bool} (hg : ∀ x : Int, PFD Try.prog g (vi .i64 x :: rows.map fun r => .c (.rp r)) (vbl (f x))) {l : List Int} : l.length ≤ 1000000 → PFD Try.prog 52 [.c (ints l), .c (.fnR g rows)] (vbl (l.any f)) := fun hl => by
  refine pi1 fn52 ?_
  (repeat' first | (refine Owe.same ?_; first | refine Owe.o ?_ | refine Owe.mk ?_ ?_) | (refine Fork.same ?_; (first | refine fkD ?_ ?_ | refine fkN ?_ ?_ | refine fkM ?_ ?_) <;> intro h) | ((first | refine OpsL.same ?_ | refine OpsDL.same ?_); first | refine pK (C83 hg hl) rfl rfl ?_) | refine MvQ.stay ?_)
  (refine rqK rfl ?_; (repeat' first | exact rfl | (refine qS ?_; constructor)))
  exact idxI_any f l 0 (Int.le_refl _)
end Go.Pw

set_option linter.unusedSimpArgs false
namespace Go.Pw
set_option maxRecDepth 2000
open Go Go.Proofs A1 A2 A3 A4
theorem fst0 {a : Int} {l : List Int} : fstE (a :: l) = 0 ↔ a = 0 ∧ fstE l = 0 := by
  simp only [fstE]
  constructor
  · intro h
    split at h
    · exact ⟨by assumption, h⟩
    · exact absurd h (by assumption)
  · rintro ⟨rfl, h⟩; rw [if_pos rfl]; exact h
theorem unl0 {p : Prop} [Decidable p] {e : Int} (he : e ≠ 0) : unl p e = 0 ↔ p := by rw [unl_eq]; split <;> simp_all
theorem unb0 {b : Bool} {e : Int} (he : e ≠ 0) : unb b e = 0 ↔ b = true := by cases b <;> simp [unb, he]
theorem fst_nil : fstE [] = 0 := rfl
theorem smE_ok {m : Int} {l : List Pr} : smE m l = 0 ↔ (0 < l.length ∧ (l.length : Int) ≤ m) ∧ ∀ i, i < l.length → pB 1000 (l.getD i (0, 0)) := by
  simp only [smE, cntE, fst0, fst_nil, and_true, unl0 (show (10 : Int) ≠ 0 by decide), unl0 (show (8 : Int) ≠ 0 by decide), unb0 (show (2 : Int) ≠ 0 by decide), Bool.not_eq_true', List.any_eq_false, decide_eq_true_eq, Decidable.not_not]
  constructor
  · rintro ⟨⟨h1, h2⟩, h3⟩
    exact ⟨⟨by omega, h2⟩, fun i hi => h3 _ (getD_mem _ hi)⟩
  · rintro ⟨⟨h1, h2⟩, h3⟩
    refine ⟨⟨by omega, h2⟩, fun x hx => ?_⟩
    obtain ⟨i, hi, rfl⟩ := List.getElem_of_mem hx
    have := h3 i hi
    rwa [List.getD_eq_getElem?_getD, List.getElem?_eq_getElem hi] at this
theorem osE_ok {T S : List Pr} {sh : Nat} (h : osE T S = 0) (hs : sh + T.length ≤ S.length) : SmOk T S sh ∧ 0 < T.length ∧ S.length ≤ 40 := by
  rw [osE, fst0, fst0] at h
  obtain ⟨h1, h2, _⟩ := h
  rw [smE_ok] at h1 h2
  exact ⟨⟨by omega, hs, h1.2, h2.2⟩, by omega, by omega⟩
/-- The power of a match. -/
abbrev pwF (T S : List Pr) (s : Nat) : Int := gNorm (mt T S s T.length)
def isEB (lim : Int) (p : Nat → Int) (m n s : Nat) : Bool :=
  decide (lim ≤ p s) && (List.range n).all fun o => !(decide (o < s ∧ s - o < m ∧ p s ≤ p o) || decide (s < o ∧ o - s < m ∧ p s < p o))
theorem isEB_iff {lim : Int} {p : Nat → Int} {m n s : Nat} : isEB lim p m n s = true ↔ lim ≤ p s ∧ ∀ o, o < n → ¬ (o < s ∧ s - o < m ∧ p s ≤ p o) ∧ ¬ (s < o ∧ o - s < m ∧ p s < p o) := by
  simp only [isEB, Bool.and_eq_true, decide_eq_true_eq, List.all_eq_true, List.mem_range, Bool.not_eq_true', Bool.or_eq_false_iff, decide_eq_false_iff_not]
abbrev pwL (T S : List Pr) (n : Nat) : List Int := (List.range n).map (pwF T S)
theorem pwL_get {T S : List Pr} {n i : Nat} (h : i < n) : (pwL T S n).getD i 0 = pwF T S i := by
  simp [pwL, List.getD_eq_getElem?_getD, h]
/-- The test of a shift, as the program makes it. -/
theorem isEB_prog {lim : Int} {T S : List Pr} {m n s : Nat} (hm : 0 < m) (hs : s < n) :
    (decide (lim ≤ pwF T S s) && !(((pwL T S n).take s).drop (s + 1 - m)).any (fun x => decide (pwF T S s ≤ x)) && decide (mxL ((((pwL T S n).take (min n (s + m))).drop s).getD 0 0) ((((pwL T S n).take (min n (s + m))).drop s).drop 1) = pwF T S s)) = isEB lim (pwF T S) m n s := by
  have hlen : (pwL T S n).length = n := by simp [pwL]
  have hb : (((pwL T S n).take s).drop (s + 1 - m)).any (fun x => decide (pwF T S s ≤ x)) = false ↔ ∀ o, o < n → ¬ (o < s ∧ s - o < m ∧ pwF T S s ≤ pwF T S o) := by
    simp only [List.any_eq_false, decide_eq_true_eq]
    constructor
    · rintro h o ho ⟨h1, h2, h3⟩
      refine h (pwF T S o) ?_ h3
      refine List.mem_iff_getElem?.2 ⟨o - (s + 1 - m), ?_⟩
      rw [List.getElem?_drop, List.getElem?_take, if_pos (by omega), show s + 1 - m + (o - (s + 1 - m)) = o by omega]
      simp [pwL, ho]
    · intro h x hx h3
      obtain ⟨i, hi⟩ := List.mem_iff_getElem?.1 hx
      rw [List.getElem?_drop, List.getElem?_take] at hi
      split at hi
      · rename_i hlt
        simp only [pwL, List.getElem?_map, List.getElem?_range (show s + 1 - m + i < n by omega), Option.map_some, Option.some.injEq] at hi
        subst hi
        exact h (s + 1 - m + i) (by omega) ⟨by omega, by omega, h3⟩
      · cases hi
  have h0 : (((pwL T S n).take (min n (s + m))).drop s).getD 0 0 = pwF T S s := by
    rw [getD_drop', getD_take' (by omega), Nat.add_zero, pwL_get hs]
  have hmx : mxL ((((pwL T S n).take (min n (s + m))).drop s).getD 0 0) ((((pwL T S n).take (min n (s + m))).drop s).drop 1) = pwF T S s ↔ ∀ o, o < n → ¬ (s < o ∧ o - s < m ∧ pwF T S s < pwF T S o) := by
    rw [h0]
    have hle : mxL (pwF T S s) ((((pwL T S n).take (min n (s + m))).drop s).drop 1) = pwF T S s ↔ mxL (pwF T S s) ((((pwL T S n).take (min n (s + m))).drop s).drop 1) ≤ pwF T S s :=
      ⟨fun h => Int.le_of_eq h, fun h => Int.le_antisymm h le_mxL⟩
    rw [hle, mxL_le]
    constructor
    · rintro ⟨_, h⟩ o ho ⟨h1, h2, h3⟩
      have := h (pwF T S o) (List.mem_iff_getElem?.2 ⟨o - s - 1, by
        rw [List.getElem?_drop, List.getElem?_drop, List.getElem?_take, if_pos (by omega), show s + (1 + (o - s - 1)) = o by omega]
        simp [pwL, ho]⟩)
      omega
    · intro h
      refine ⟨Int.le_refl _, fun x hx => ?_⟩
      obtain ⟨i, hi⟩ := List.mem_iff_getElem?.1 hx
      rw [List.getElem?_drop, List.getElem?_drop, List.getElem?_take] at hi
      split at hi
      · rename_i hlt
        simp only [pwL, List.getElem?_map, List.getElem?_range (show s + (1 + i) < n by omega), Option.map_some, Option.some.injEq] at hi
        subst hi
        have := h (s + (1 + i)) (by omega)
        omega
      · cases hi
  rw [Bool.eq_iff_iff, isEB_iff]
  simp only [Bool.and_eq_true, decide_eq_true_eq, Bool.not_eq_true', hb, hmx]
  constructor
  · rintro ⟨⟨h1, h2⟩, h3⟩; exact ⟨h1, fun o ho => ⟨h2 o ho, h3 o ho⟩⟩
  · rintro ⟨h1, h2⟩; exact ⟨⟨h1, fun o ho => (h2 o ho).1⟩, fun o ho => (h2 o ho).2⟩
end Go.Pw

set_option linter.unusedSimpArgs false
namespace Go.Pw
set_option maxRecDepth 2000
open Go Go.Proofs A1 A2 A3 A4
def ecE (T S : List Pr) (lim : Int) : Int := fstE [osE T S, unl ((T.length : Int) ≤ S.length) 10, unl (1 ≤ lim ∧ lim ≤ 1000000000000000) 2]
theorem ecE_ok {T S : List Pr} {lim : Int} (h : ecE T S lim = 0) : T.length ≤ S.length ∧ 0 < T.length ∧ S.length ≤ 40 ∧ (1 ≤ lim ∧ lim ≤ 1000000000000000) ∧ ∀ s, s + T.length ≤ S.length → SmOk T S s := by
  rw [ecE, fst0, fst0, fst0] at h
  obtain ⟨h1, h2, h3, _⟩ := h
  rw [unl0 (by decide)] at h2 h3
  obtain ⟨_, h5, h6⟩ := osE_ok (sh := 0) h1 (by omega)
  exact ⟨by omega, h5, h6, h3, fun s hs => (osE_ok h1 hs).1⟩
/-- All echoes. -/
abbrev ecL (T S : List Pr) (lim : Int) : List Int := fltL (isEB lim (pwF T S) T.length (S.length - T.length + 1)) (S.length - T.length + 1)
theorem pwL_succ (T S : List Pr) (n : Nat) : pwL T S (n + 1) = pwL T S n ++ [pwF T S n] := by simp [pwL, List.range_succ]
theorem pwL_len (T S : List Pr) (n : Nat) : (pwL T S n).length = n := by simp [pwL]
set_option maxHeartbeats 1000000 in
theorem C15 {T S : List Pr} {lim : Int} : (T.length ≤ 1000000 ∧ S.length ≤ 1000000) → PFD Try.prog 15 [.c (prs T), .c (prs S), vi .i64 lim] (.tup [.c (ints (if ecE T S lim = 0 then ecL T S lim else [])), vi .i64 (ecE T S lim)]) := fun ⟨hT, hS⟩ => by
  by_cases h0 : ecE T S lim = 0
  · rw [if_pos h0]
    obtain ⟨hTS, hT0, hS40, hlim, hO⟩ := ecE_ok h0
    obtain ⟨n, hn⟩ : ∃ n, S.length - T.length + 1 = n := ⟨_, rfl⟩
    rw [show ecL T S lim = fltL (isEB lim (pwF T S) T.length n) n by rw [ecL, hn]]
    refine pi2 fn15 ?_
    (repeat' first | (refine Owe.same ?_; first | refine Owe.o ?_ | refine Owe.mk ?_ ?_) | (refine Fork.same ?_; (first | refine fkD ?_ ?_ | refine fkN ?_ ?_ | refine fkM ?_ ?_) <;> intro h) | ((first | refine OpsL.same ?_ | refine OpsDL.same ?_); first | refine pK C48 rfl rfl ?_ | refine pK C50 rfl rfl ?_ | refine pK C49 rfl rfl ?_ | refine pK C47 rfl rfl ?_) | refine MvQ.stay ?_)
    · exact absurd h0 h
    refine Sat.nilS 9 3 1 (fun i => r1 (([] : List Int).getD i 0)) rfl ?_
    refine Sat.lp (fun k : Nat => ⟨[(42, vi .i64 k), (41, vi .i64 (n : Int)), (0, .c (prs T)), (1, .c (prs S)), (2, vi .i64 lim), (9, .c (.ms 0 (pwL T S k).length))], [(0, rowv 3 1 r1 0 (pwL T S k))], 1⟩)
      (fun k => k ≤ n) (fun k => n - k) 0 [0] (Nat.zero_le _) ?_ ?_
    · (refine qis ?_ ?_ <;> (repeat' first | exact rfl | (refine qS ?_; constructor)))
      omega
    · intro k hk
      have hlen := pwL_len T S k
      refine Fork.dec (fun hlt => ?_) (fun hlt => ?_)
      · have hlt : k < n := by omega
        have hOk := hO k (by omega)
        have c51 := C51 (T := T) (S := S) (sh := k) (n := S.length - k) ⟨hOk, by omega⟩
        have hR := mt_R hOk
        have q1 := mbd hR.1 hR.1
        have q2 := mbd hR.2 hR.2
        (repeat' first | (refine Owe.same ?_; first | refine Owe.o ?_ | refine Owe.mk ?_ ?_) | (refine Fork.same ?_; (first | refine fkD ?_ ?_ | refine fkN ?_ ?_ | refine fkM ?_ ?_) <;> intro h) | ((first | refine OpsL.same ?_ | refine OpsDL.same ?_); first | refine pK c51 rfl rfl ?_) | refine MvQ.stay ?_)
        refine again (k + 1) [1] hlt (by omega) ?_
        (refine qis ?_ ?_ <;> (repeat' first | exact rfl | (refine qS ?_; constructor)))
        · rw [pwL_len, pwL_len]; rfl
        · exact pwL_succ T S k
      · have : k = n := by omega
        subst this
        (repeat' first | (refine Owe.same ?_; first | refine Owe.o ?_ | refine Owe.mk ?_ ?_) | (refine Fork.same ?_; (first | refine fkD ?_ ?_ | refine fkN ?_ ?_ | refine fkM ?_ ?_) <;> intro h) | refine MvQ.stay ?_)
        refine SatL.frz 9 _ rfl rfl (Nat.le_refl _) ?_
        refine SatL.frz 67 _ rfl rfl (Nat.le_refl _) ?_
        refine Sat.nilS 14 3 1 (fun i => r1 (([] : List Int).getD i 0)) rfl ?_
        refine Sat.lp (fun j : Nat => ⟨[(69, vi .i64 j), (68, vi .i64 (k : Int)), (67, .c (ints (pwL T S k))), (9, .c (ints (pwL T S k))), (0, .c (prs T)), (2, vi .i64 lim), (14, .c (.ms 0 (fltL (isEB lim (pwF T S) T.length k) j).length))], [(0, rowv 3 1 r1 0 (fltL (isEB lim (pwF T S) T.length k) j))], 1⟩)
          (fun j => j ≤ k) (fun j => k - j) 0 [1] (Nat.zero_le _) ?_ ?_
        · (refine qis ?_ ?_ <;> (repeat' first | exact rfl | (refine qS ?_; constructor)))
          omega
        · intro j hj
          have hfl := fltL_len (isEB lim (pwF T S) T.length k) j
          have hfs := fltL_succ (isEB lim (pwF T S) T.length k) j
          refine Fork.dec (fun hlt => ?_) (fun hlt => ?_)
          · have hlt : j < k := by omega
            have e := isEB_prog (lim := lim) (T := T) (S := S) hT0 hlt
            have hg := pwL_get (T := T) (S := S) hlt
            have c52 : ∀ l : List Int, l.length ≤ 1000000 → ∀ p : Int, PFD Try.prog 52 [.c (ints l), .c (.fnR 53 [[dI p]])] (vbl (l.any fun x => decide (p ≤ x))) := fun l hl p => C52 (fun x => C53 (m := x) (n := p)) hl
            (repeat' first | (refine Owe.same ?_; first | refine Owe.o ?_ | refine Owe.mk ?_ ?_) | (refine Fork.same ?_; (first | refine fkD ?_ ?_ | refine fkN ?_ ?_ | refine fkM ?_ ?_) <;> intro h) | refine MvQ.stay ?_)
            refine SatL.as 17 (.c (ints (((pwL T S k).take j).drop (j + 1 - T.length)))) ?_ ?_
            · have e1 : (Int.toNat (max 0 ((j : Int) - T.length + 1))) = j + 1 - T.length := by omega
              have := VEq.cut (s := 1) (row := r1) (d := (0 : Int)) (l := pwL T S k) (m := ((pwL T S k).take j).drop (j + 1 - T.length)) (k := Int.toNat (max 0 ((j : Int) - T.length + 1))) (j := (j : Int).toNat) (by omega) (by omega) (by rw [e1]; rfl)
              exact this
            refine SatL.as 18 (.c (ints (((pwL T S k).take (min k (j + T.length))).drop j))) ?_ ?_
            · have e1 : (Int.toNat (min ((pwL T S k).length : Int) ((j : Int) + T.length))) = min k (j + T.length) := by omega
              have := VEq.cut (s := 1) (row := r1) (d := (0 : Int)) (l := pwL T S k) (m := ((pwL T S k).take (min k (j + T.length))).drop j) (k := (j : Int).toNat) (j := Int.toNat (min ((pwL T S k).length : Int) ((j : Int) + T.length))) (by omega) (by omega) (by rw [e1]; rfl)
              exact this
            refine SatL.frB 1 [16] rfl rfl ?_
            refine SatL.go ?_
            have c52' := c52 (((pwL T S k).take j).drop (j + 1 - T.length)) (by simp; omega) ((pwL T S k).getD (j : Int).toNat 0)
            have c54' := C54 (l := ((pwL T S k).take (min k (j + T.length))).drop j) (by simp only [List.length_drop, List.length_take]; omega)
            have hg' : (pwL T S k).getD (j : Int).toNat 0 = pwF T S j := hg
            (repeat' first | (refine Owe.same ?_; first | refine Owe.o ?_ | refine Owe.mk ?_ ?_) | (refine Fork.same ?_; (first | refine fkD ?_ ?_ | refine fkN ?_ ?_ | refine fkM ?_ ?_) <;> intro h) | ((first | refine OpsL.same ?_ | refine OpsDL.same ?_); first | refine pK c52' rfl rfl ?_ | refine pK c54' rfl rfl ?_) | refine MvQ.stay ?_)
            · rename_i h1 h2
              rw [hg'] at h h1 h2
              rw [decide_eq_true h1, h2, decide_eq_true h] at e
              rw [if_pos (by rw [← e]; rfl)] at hfs
              refine again (j + 1) [15] hlt (by omega) ?_
              (refine qis ?_ ?_ <;> (repeat' first | exact rfl | (refine qS ?_; constructor)))
              · rw [hfs]; simp
              · exact hfs
            · rename_i h1 h2
              rw [hg'] at h h1 h2
              rw [decide_eq_true h1, h2, decide_eq_false h] at e
              rw [if_neg (by rw [← e]; simp)] at hfs
              refine again (j + 1) [0] hlt (by omega) ?_
              (refine qis ?_ ?_ <;> (repeat' first | exact rfl | (refine qS ?_; constructor)))
              · rw [hfs]
              · rw [hfs]
            · rename_i h1
              rw [hg'] at h h1
              rw [decide_eq_true h1, h] at e
              rw [if_neg (by rw [← e]; simp)] at hfs
              refine again (j + 1) [0] hlt (by omega) ?_
              (refine qis ?_ ?_ <;> (repeat' first | exact rfl | (refine qS ?_; constructor)))
              · rw [hfs]
              · rw [hfs]
            · rw [hg'] at h
              rw [decide_eq_false h] at e
              rw [if_neg (by rw [← e]; simp)] at hfs
              refine again (j + 1) [0] hlt (by omega) ?_
              (refine qis ?_ ?_ <;> (repeat' first | exact rfl | (refine qS ?_; constructor)))
              · rw [hfs]
              · rw [hfs]
          · have : j = k := by omega
            subst this
            (repeat' first | (refine Owe.same ?_; first | refine Owe.o ?_ | refine Owe.mk ?_ ?_) | (refine Fork.same ?_; (first | refine fkD ?_ ?_ | refine fkN ?_ ?_ | refine fkM ?_ ?_) <;> intro h) | refine MvQ.stay ?_)
            refine rqF 0 _ rfl rfl rfl ?_; (repeat' first | exact rfl | (refine qS ?_; constructor))
            exact h0.symm
  · rw [if_neg h0]
    refine pi2 fn15 ?_
    (repeat' first | (refine Owe.same ?_; first | refine Owe.o ?_ | refine Owe.mk ?_ ?_) | (refine Fork.same ?_; (first | refine fkD ?_ ?_ | refine fkN ?_ ?_ | refine fkM ?_ ?_) <;> intro h) | ((first | refine OpsL.same ?_ | refine OpsDL.same ?_); first | refine pK C48 rfl rfl ?_ | refine pK C50 rfl rfl ?_ | refine pK C49 rfl rfl ?_ | refine pK C47 rfl rfl ?_) | refine MvQ.stay ?_)
    · (refine rqK rfl ?_; (repeat' first | exact rfl | (refine qS ?_; constructor)))
    · exact absurd h h0
end Go.Pw

set_option linter.unusedSimpArgs false
namespace Go.Pw
set_option maxRecDepth 2000
open Go Go.Proofs A1 A2 A3 A4
theorem C117 {n : Int} : PFD Try.prog 117 [vi .i64 n] (vbl false) := by
  refine pi1 fn117 ?_
  (repeat' first | (refine Owe.same ?_; first | refine Owe.o ?_ | refine Owe.mk ?_ ?_) | (refine Fork.same ?_; (first | refine fkD ?_ ?_ | refine fkN ?_ ?_ | refine fkM ?_ ?_) <;> intro h) | refine MvQ.stay ?_)
  (refine rqK rfl ?_; (repeat' first | exact rfl | (refine qS ?_; constructor)))
  simp
theorem C123 {a b : Int} : PFD Try.prog 123 [vi .i64 a, vi .i64 b] (vbl (decide (a < b))) := by
  refine pi1 fn123 ?_
  (repeat' first | (refine Owe.same ?_; first | refine Owe.o ?_ | refine Owe.mk ?_ ?_) | (refine Fork.same ?_; (first | refine fkY ?_ | refine fkF ?_ | ((first | refine fkD ?_ ?_ | refine fkN ?_ ?_ | refine fkM ?_ ?_) <;> intro h))) | ((first | refine OpsL.same ?_ | refine OpsDL.same ?_); first | refine pK C117 rfl rfl ?_) | refine MvQ.stay ?_)
  (refine rqK rfl ?_; (repeat' first | exact rfl | (refine qS ?_; constructor)))
def cmpI (a b : Int) : Int := if a < b then -1 else if b < a then 1 else 0
theorem C90 {a b : Int} : PFD Try.prog 90 [vi .i64 a, vi .i64 b] (vi .i64 (cmpI a b)) := by
  refine pi1 fn90 ?_
  (repeat' first | (refine Owe.same ?_; first | refine Owe.o ?_ | refine Owe.mk ?_ ?_) | (refine Fork.same ?_; (first | refine fkY ?_ | refine fkF ?_ | ((first | refine fkD ?_ ?_ | refine fkN ?_ ?_ | refine fkM ?_ ?_) <;> intro h))) | ((first | refine OpsL.same ?_ | refine OpsDL.same ?_); first | refine pK C117 rfl rfl ?_) | refine MvQ.stay ?_)
  · (refine rqK rfl ?_; (repeat' first | exact rfl | (refine qS ?_; constructor))); rw [cmpI, if_pos h]
  · rename_i h1
    (refine rqK rfl ?_; (repeat' first | exact rfl | (refine qS ?_; constructor))); rw [cmpI, if_neg h1, if_pos h]
  · rename_i h1
    (refine rqK rfl ?_; (repeat' first | exact rfl | (refine qS ?_; constructor))); rw [cmpI, if_neg h1, if_neg h]
theorem C89 {l : List Int} : l.length < 4611686018427387904 → PFD Try.prog 89 [.c (ints l)] (vi .i64 (fstE l)) := fun hl => by
  refine pi1 fn89 ?_
  (repeat' first | (refine Owe.same ?_; first | refine Owe.o ?_ | refine Owe.mk ?_ ?_) | (refine Fork.same ?_; (first | refine fkD ?_ ?_ | refine fkN ?_ ?_ | refine fkM ?_ ?_) <;> intro h) | refine MvQ.stay ?_)
  refine Sat.lp0 (fun k : Nat => [(8, vi .i64 k), (7, vi .i64 l.length), (6, .c (ints l)), (3, vi .i64 0)]) (fun k => k ≤ l.length ∧ fstE l = fstE (l.drop k)) (fun k => l.length - k) 0 ⟨Nat.zero_le _, rfl⟩ (by ((first | refine qen ?_ | refine qvs ?_ | refine qeq ?_ | refine qst ?_ | refine qv ?_ | refine qc ?_ | refine qe ?_ | refine qcs ?_ | skip); (repeat' first | exact rfl | (refine qS ?_; constructor)))) ?_
  intro k hk
  (repeat' first | (refine Owe.same ?_; first | refine Owe.o ?_ | refine Owe.mk ?_ ?_) | (refine Fork.same ?_; (first | refine fkD ?_ ?_ | refine fkN ?_ ?_ | refine fkM ?_ ?_) <;> intro h) | refine MvQ.stay ?_)
  · simp only [Int.toNat_natCast] at h
    (refine rqK rfl ?_; (repeat' first | exact rfl | (refine qS ?_; constructor)))
    rw [hk.2, fstE_drop l k (by omega), if_neg h, Int.toNat_natCast]
  · simp only [Int.toNat_natCast] at h
    refine again0 (k + 1) ⟨by omega, ?_⟩ (by omega) (by ((first | refine qen ?_ | refine qvs ?_ | refine qeq ?_ | refine qst ?_ | refine qv ?_ | refine qc ?_ | refine qe ?_ | refine qcs ?_ | skip); (repeat' first | exact rfl | (refine qS ?_; constructor))))
    rw [hk.2, fstE_drop l k (by omega), if_pos h]
  · (refine rqK rfl ?_; (repeat' first | exact rfl | (refine qS ?_; constructor)))
    rw [hk.2, List.drop_of_length_le (by omega)]; rfl
/-- Lists of numbers compared. -/
def cmpL : List Int → List Int → Int
  | [], [] => 0
  | [], _ :: _ => -1
  | _ :: _, [] => 1
  | x :: l, y :: m => if cmpI x y = 0 then cmpL l m else cmpI x y
theorem cmpL_drop (l m : List Int) (k : Nat) (h1 : k < l.length) (h2 : k < m.length) : cmpL (l.drop k) (m.drop k) = if cmpI (l.getD k 0) (m.getD k 0) = 0 then cmpL (l.drop (k + 1)) (m.drop (k + 1)) else cmpI (l.getD k 0) (m.getD k 0) := by
  rw [List.drop_eq_getElem_cons h1, List.drop_eq_getElem_cons h2, cmpL, List.getD_eq_getElem?_getD, List.getElem?_eq_getElem h1, List.getD_eq_getElem?_getD, List.getElem?_eq_getElem h2]
  rfl
theorem C91 {l m : List Int} : (l.length ≤ 1000000 ∧ m.length ≤ 1000000) → PFD Try.prog 91 [.c (ints l), .c (ints m)] (vi .i64 (cmpL l m)) := fun ⟨hl, hm⟩ => by
  refine pi1 fn91 ?_
  (repeat' first | (refine Owe.same ?_; first | refine Owe.o ?_ | refine Owe.mk ?_ ?_) | (refine Fork.same ?_; (first | refine fkD ?_ ?_ | refine fkN ?_ ?_ | refine fkM ?_ ?_) <;> intro h) | refine MvQ.stay ?_)
  refine Sat.lp0 (fun k : Nat => [(11, vi .i64 k), (10, vi .i64 l.length), (9, .c (ints l)), (0, .c (ints l)), (1, .c (ints m))]) (fun k => k ≤ l.length ∧ k ≤ m.length ∧ cmpL l m = cmpL (l.drop k) (m.drop k)) (fun k => l.length - k) 0 ⟨Nat.zero_le _, Nat.zero_le _, rfl⟩ (by ((first | refine qen ?_ | refine qvs ?_ | refine qeq ?_ | refine qst ?_ | refine qv ?_ | refine qc ?_ | refine qe ?_ | refine qcs ?_ | skip); (repeat' first | exact rfl | (refine qS ?_; constructor)))) ?_
  intro k ⟨hk, hk2, he⟩
  (repeat' first | (refine Owe.same ?_; first | refine Owe.o ?_ | refine Owe.mk ?_ ?_) | (refine Fork.same ?_; (first | refine fkD ?_ ?_ | refine fkN ?_ ?_ | refine fkM ?_ ?_) <;> intro h) | ((first | refine OpsL.same ?_ | refine OpsDL.same ?_); first | refine pK C90 rfl rfl ?_) | refine MvQ.stay ?_)
  · (refine rqK rfl ?_; (repeat' first | exact rfl | (refine qS ?_; constructor)))
    rw [he, List.drop_of_length_le (show m.length ≤ k by omega), List.drop_eq_getElem_cons (show k < l.length by omega)]; rfl
  · have e := cmpL_drop l m k (by omega) (by omega)
    have h : ¬ cmpI (l.getD k 0) (m.getD k 0) = 0 := h
    rw [if_neg h] at e
    (refine rqK rfl ?_; (repeat' first | exact rfl | (refine qS ?_; constructor))); rw [he, e]; rfl
  · have e := cmpL_drop l m k (by omega) (by omega)
    have h : cmpI (l.getD k 0) (m.getD k 0) = 0 := h
    rw [if_pos h] at e
    exact again0 (k + 1) ⟨by omega, by omega, by rw [he, e]⟩ (by omega) (by ((first | refine qen ?_ | refine qvs ?_ | refine qeq ?_ | refine qst ?_ | refine qv ?_ | refine qc ?_ | refine qe ?_ | refine qcs ?_ | skip); (repeat' first | exact rfl | (refine qS ?_; constructor))))
  · (refine rqK rfl ?_; (repeat' first | exact rfl | (refine qS ?_; constructor)))
    rw [he, List.drop_of_length_le (show l.length ≤ k by omega), List.drop_eq_getElem_cons (show k < m.length by omega)]; rfl
  · (refine rqK rfl ?_; (repeat' first | exact rfl | (refine qS ?_; constructor)))
    rw [he, List.drop_of_length_le (show l.length ≤ k by omega), List.drop_of_length_le (show m.length ≤ k by omega)]; rfl
theorem bit_test {b i : Nat} (hb : b < 2 ^ 63) (hi : i < 64) : decide (IntKind.u64.wrap ((BitVec.ofInt IntKind.u64.bits ((b : Int).fdiv (2 ^ min (Int.toNat (i : Int)) IntKind.u64.bits)) &&& BitVec.ofInt IntKind.u64.bits 1).toNat : Nat) = 1) = b.testBit i := by
  have hbits : IntKind.u64.bits = 64 := rfl
  have e1 : (b : Int).fdiv (2 ^ min (Int.toNat (i : Int)) IntKind.u64.bits) = ((b / 2 ^ i : Nat) : Int) := by
    rw [hbits, Int.toNat_natCast, Nat.min_eq_left (by omega), Int.fdiv_eq_ediv_of_nonneg _ (Int.pow_nonneg (by decide))]
    norm_cast
  rw [e1, Nat.testBit_eq_decide_div_mod_eq]
  have hlt : b / 2 ^ i < 2 ^ 63 := by
    have := Nat.div_le_self b (2 ^ i)
    omega
  generalize b / 2 ^ i = q at hlt ⊢
  have e2 : (BitVec.ofInt IntKind.u64.bits (q : Int) &&& BitVec.ofInt IntKind.u64.bits 1).toNat = q % 2 := by
    rw [BitVec.toNat_and]
    have f1 : (BitVec.ofInt IntKind.u64.bits (q : Int)).toNat = q := by
      rw [BitVec.toNat_ofInt, hbits]; omega
    have f2 : (BitVec.ofInt IntKind.u64.bits 1).toNat = 1 := rfl
    rw [f1, f2, Nat.and_one_is_mod]
  rw [e2]
  have e3 : IntKind.u64.wrap ((q % 2 : Nat) : Int) = ((q % 2 : Nat) : Int) := by
    rcases (show q % 2 = 0 ∨ q % 2 = 1 by omega) with h | h <;> rw [h] <;> rfl
  rw [e3, Bool.eq_iff_iff, decide_eq_true_eq, decide_eq_true_eq]
  omega
/-- The numbers of a set, as bits say. -/
abbrev subL (n b : Nat) : List Int := fltL (fun i => b.testBit i) n
theorem subL_mem {n b : Nat} {x : Int} (h : x ∈ subL n b) : 0 ≤ x ∧ x < n := by
  simp only [subL, fltL, List.mem_map, List.mem_filter, List.mem_range] at h
  obtain ⟨i, ⟨h1, _⟩, rfl⟩ := h
  omega
structure BSt where
  l : List Int
  p : Int
  ok : Bool
/-- The best set among those of the first bits. -/
def bestK (c : List Int → Int × Bool) (n : Nat) : Nat → BSt
  | 0 => ⟨[], 0, false⟩
  | b + 1 => let s := bestK c n b
    let t := subL n b
    if (c t).2 = true ∧ (s.ok = false ∨ fstE [cmpI (c t).1 s.p, cmpI t.length s.l.length, cmpL t s.l] < 0) then ⟨t, (c t).1, true⟩ else s
theorem bestK_len (c : List Int → Int × Bool) (n : Nat) : ∀ b, (bestK c n b).l.length ≤ n
  | 0 => by simp [bestK]
  | b + 1 => by
    have ih := bestK_len c n b
    have := fltL_len (fun i => b.testBit i) n
    simp only [bestK]
    split
    · exact this
    · exact ih
theorem C68 {g : FuncId} {rows : List (List D)} {c : List Int → Int × Bool} {n : Nat} (hg : ∀ t : List Int, t.length ≤ 1000000 → (∀ x ∈ t, 0 ≤ x ∧ x < n) → PFD Try.prog g (.c (ints t) :: rows.map fun r => .c (.rp r)) (.tup [vi .i64 (c t).1, vbl (c t).2])) : n ≤ 20 → PFD Try.prog 68 [vi .i64 n, .c (.fnR g rows)] (.tup [.c (ints (bestK c n (2 ^ n)).l), vi .i64 (bestK c n (2 ^ n)).p, vbl (bestK c n (2 ^ n)).ok]) := fun hn => by
  have hpow : 2 ^ n ≤ 2 ^ 20 := Nat.pow_le_pow_right (by decide) hn
  obtain ⟨m, hm⟩ : ∃ m, 2 ^ n = m := ⟨_, rfl⟩
  have hp : ((2 : Int) ^ n) = (m : Int) := by rw [← hm]; norm_cast
  rw [hm] at hpow ⊢
  have e1 : IntKind.u64.wrap (1 * 2 ^ min (Int.toNat (n : Int)) IntKind.u64.bits) = (m : Int) := by
    have hb : IntKind.u64.bits = 64 := rfl
    rw [hb, Int.toNat_natCast, Nat.min_eq_left (by omega), Int.one_mul, u64_wrap, hp]
    omega
  refine pi3 fn68 ?_
  (repeat' first | (refine Owe.same ?_; first | refine Owe.o ?_ | refine Owe.mk ?_ ?_) | (refine Fork.same ?_; (first | refine fkD ?_ ?_ | refine fkN ?_ ?_ | refine fkM ?_ ?_) <;> intro h) | refine MvQ.stay ?_)
  refine Sat.lp0 (fun b : Nat => [(17, vi .u64 b), (16, vi .u64 m), (0, vi .i64 n), (1, .c (.fnR g rows)), (7, .c (ints (bestK c n b).l)), (8, vi .i64 (bestK c n b).p), (9, vbl (bestK c n b).ok)]) (fun b => b ≤ m) (fun b => m - b) 0 (Nat.zero_le _) ?_ ?_
  · ((first | refine qen ?_ | refine qvs ?_ | refine qeq ?_ | refine qst ?_ | refine qv ?_ | refine qc ?_ | refine qe ?_ | refine qcs ?_ | skip); (repeat' first | exact rfl | (refine qS ?_; constructor)))
    exact e1
  · intro b hb
    refine Fork.dec (fun hlt => ?_) (fun hlt => ?_)
    · have hlt : b < m := by omega
      (repeat' first | (refine Owe.same ?_; first | refine Owe.o ?_ | refine Owe.mk ?_ ?_) | (refine Fork.same ?_; (first | refine fkD ?_ ?_ | refine fkN ?_ ?_ | refine fkM ?_ ?_) <;> intro h) | refine MvQ.stay ?_)
      refine Sat.nilS 11 3 1 (fun i => r1 (([] : List Int).getD i 0)) rfl ?_
      refine Sat.lp (fun i : Nat => ⟨[(21, vi .i64 i), (20, vi .i64 n), (10, vi .u64 b), (11, .c (.ms 0 (fltL (fun i => b.testBit i) i).length)), (17, vi .u64 b), (16, vi .u64 m), (0, vi .i64 n), (1, .c (.fnR g rows)), (7, .c (ints (bestK c n b).l)), (8, vi .i64 (bestK c n b).p), (9, vbl (bestK c n b).ok)], [(0, rowv 3 1 r1 0 (fltL (fun i => b.testBit i) i))], 1⟩)
        (fun i => i ≤ n) (fun i => n - i) 0 [0] (Nat.zero_le _) ?_ ?_
      · (refine qis ?_ ?_ <;> (repeat' first | exact rfl | (refine qS ?_; constructor)))
      · intro i hi
        have hfl := fltL_len (fun i => b.testBit i) i
        have hfs := fltL_succ (fun i => b.testBit i) i
        refine Fork.dec (fun hli => ?_) (fun hli => ?_)
        · have hli : i < n := by omega
          have ht := bit_test (b := b) (i := i) (by omega) (by omega)
          (repeat' first | (refine Owe.same ?_; first | refine Owe.o ?_ | refine Owe.mk ?_ ?_) | (refine Fork.same ?_; (first | refine fkD ?_ ?_ | refine fkN ?_ ?_ | refine fkM ?_ ?_) <;> intro h) | refine MvQ.stay ?_)
          · have h : decide _ = true := decide_eq_true h
            rw [ht] at h
            rw [if_pos h] at hfs
            refine again (i + 1) [1] hli (by omega) ?_
            (refine qis ?_ ?_ <;> (repeat' first | exact rfl | (refine qS ?_; constructor)))
            · rw [hfs]; simp
            · exact hfs
          · have h : decide _ = false := decide_eq_false h
            rw [ht] at h
            rw [if_neg (by rw [h]; decide)] at hfs
            refine again (i + 1) [0] hli (by omega) ?_
            (refine qis ?_ ?_ <;> (repeat' first | exact rfl | (refine qS ?_; constructor)))
            · rw [hfs]
            · rw [hfs]
        · have : i = n := by omega
          subst this
          (repeat' first | (refine Owe.same ?_; first | refine Owe.o ?_ | refine Owe.mk ?_ ?_) | (refine Fork.same ?_; (first | refine fkD ?_ ?_ | refine fkN ?_ ?_ | refine fkM ?_ ?_) <;> intro h) | refine MvQ.stay ?_)
          refine OpsL.frz 11 _ rfl rfl (Nat.le_refl _) ?_
          refine OpsL.frz 36 _ rfl rfl (Nat.le_refl _) ?_
          have hgt := hg (subL i b) (by have := fltL_len (fun i => b.testBit i) i; show (fltL (fun i => b.testBit i) i).length ≤ _; omega) (fun x hx => subL_mem hx)
          have hl2 := bestK_len c i b
          (repeat' first | (refine Owe.same ?_; first | refine Owe.o ?_ | refine Owe.mk ?_ ?_) | (refine Fork.same ?_; (first | refine fkD ?_ ?_ | refine fkN ?_ ?_ | refine fkM ?_ ?_) <;> intro h) | ((first | refine OpsL.same ?_ | refine OpsDL.same ?_); first | refine pR hgt rfl rfl ?_) | refine MvQ.stay ?_)
          all_goals (repeat' first | (refine Owe.same ?_; first | refine Owe.o ?_ | refine Owe.mk ?_ ?_) | (refine Fork.same ?_; (first | refine fkD ?_ ?_ | refine fkN ?_ ?_ | refine fkM ?_ ?_) <;> intro h) | ((first | refine OpsL.same ?_ | refine OpsDL.same ?_); first | refine pK C90 rfl rfl ?_ | refine pK C91 rfl rfl ?_ | refine pK C89 rfl rfl ?_) | refine MvQ.stay ?_)
          · rename_i h1
            have e : bestK c i (b + 1) = ⟨subL i b, (c (subL i b)).1, true⟩ := by
              simp only [bestK]; rw [if_pos ⟨h1, .inl (by simpa using h)⟩]
            refine again0 (b + 1) hlt (by omega) ?_
            simp only [e]
            ((first | refine qen ?_ | refine qvs ?_ | refine qeq ?_ | refine qst ?_ | refine qv ?_ | refine qc ?_ | refine qe ?_ | refine qcs ?_ | skip); (repeat' first | exact rfl | (refine qS ?_; constructor)))
            rw [u64_wrap]; omega
          · rename_i h1 h2
            have e : bestK c i (b + 1) = ⟨subL i b, (c (subL i b)).1, true⟩ := by
              simp only [bestK]; rw [if_pos ⟨h1, .inr h⟩]
            refine again0 (b + 1) hlt (by omega) ?_
            simp only [e]
            ((first | refine qen ?_ | refine qvs ?_ | refine qeq ?_ | refine qst ?_ | refine qv ?_ | refine qc ?_ | refine qe ?_ | refine qcs ?_ | skip); (repeat' first | exact rfl | (refine qS ?_; constructor)))
            rw [u64_wrap]; omega
          · rename_i h1 h2
            have e : bestK c i (b + 1) = bestK c i b := by
              simp only [bestK]; rw [if_neg]
              rintro ⟨_, h3 | h3⟩
              · rw [h3] at h2; cases h2
              · exact h h3
            refine again0 (b + 1) hlt (by omega) ?_
            simp only [e]
            ((first | refine qen ?_ | refine qvs ?_ | refine qeq ?_ | refine qst ?_ | refine qv ?_ | refine qc ?_ | refine qe ?_ | refine qcs ?_ | skip); (repeat' first | exact rfl | (refine qS ?_; constructor)))
            rw [u64_wrap]; omega
          · have e : bestK c i (b + 1) = bestK c i b := by
              simp only [bestK]; rw [if_neg]
              rintro ⟨h3, _⟩
              rw [h] at h3; cases h3
            refine again0 (b + 1) hlt (by omega) ?_
            simp only [e]
            ((first | refine qen ?_ | refine qvs ?_ | refine qeq ?_ | refine qst ?_ | refine qv ?_ | refine qc ?_ | refine qe ?_ | refine qcs ?_ | skip); (repeat' first | exact rfl | (refine qS ?_; constructor)))
            rw [u64_wrap]; omega
    · have : b = m := by omega
      subst this
      (repeat' first | (refine Owe.same ?_; first | refine Owe.o ?_ | refine Owe.mk ?_ ?_) | (refine Fork.same ?_; (first | refine fkD ?_ ?_ | refine fkN ?_ ?_ | refine fkM ?_ ?_) <;> intro h) | refine MvQ.stay ?_)
      (refine rqK rfl ?_; (repeat' first | exact rfl | (refine qS ?_; constructor)))
end Go.Pw

set_option linter.unusedSimpArgs false
namespace Go.Pw
set_option maxRecDepth 2000
open Go Go.Proofs A1 A2 A3 A4
abbrev Dv := Int × Int × Int
abbrev tr (d : Dv) : V := .agg [int d.1, int d.2.1, int d.2.2]
/-- A device in range. -/
abbrev dvOk (d : Dv) : Prop := (0 ≤ d.1 ∧ d.1 ≤ 20) ∧ (1 ≤ d.2.1 ∧ d.2.1 ≤ 10) ∧ 0 ≤ d.2.2 ∧ d.2.2 ≤ 10
abbrev win (d : Dv) : Int := d.2.1 + d.2.2
abbrev dist (a b : Dv) : Bool := decide (max (a.1 - b.1) (-(a.1 - b.1)) ≤ 1)
theorem C97 {a b : Dv} : (dvOk a ∧ dvOk b) → PFD Try.prog 97 [tr a, tr b] (vbl (dist a b)) := fun ⟨ha, hb⟩ => by
  refine pi1 fn97 ?_
  (repeat' first | (refine Owe.same ?_; first | refine Owe.o ?_ | refine Owe.mk ?_ ?_) | (refine Fork.same ?_; (first | refine fkD ?_ ?_ | refine fkN ?_ ?_ | refine fkM ?_ ?_) <;> intro h) | ((first | refine OpsL.same ?_ | refine OpsDL.same ?_); first | refine pK C80 rfl rfl ?_) | refine MvQ.stay ?_)
  (refine rqK rfl ?_; (repeat' first | exact rfl | (refine qS ?_; constructor)))
theorem C98 {d : Dv} : dvOk d → PFD Try.prog 98 [tr d] (vi .i64 (win d)) := fun h => by
  refine pi1 fn98 ?_
  (repeat' first | (refine Owe.same ?_; first | refine Owe.o ?_ | refine Owe.mk ?_ ?_) | (refine Fork.same ?_; (first | refine fkD ?_ ?_ | refine fkN ?_ ?_ | refine fkM ?_ ?_) <;> intro h) | refine MvQ.stay ?_)
  (refine rqK rfl ?_; (repeat' first | exact rfl | (refine qS ?_; constructor)))
def cyE (n : Int) : Int := unl (1 ≤ n ∧ n ≤ 40) 2
theorem C99 {n : Int} : PFD Try.prog 99 [vi .i64 n] (vi .i64 (cyE n)) := by
  refine pi1 fn99 ?_
  (repeat' first | (refine Owe.same ?_; first | refine Owe.o ?_ | refine Owe.mk ?_ ?_) | (refine Fork.same ?_; (first | refine fkD ?_ ?_ | refine fkN ?_ ?_ | refine fkM ?_ ?_) <;> intro h) | ((first | refine OpsL.same ?_ | refine OpsDL.same ?_); first | refine pK C50 rfl rfl ?_ | refine pK C49 rfl rfl ?_) | refine MvQ.stay ?_)
  (refine rqK rfl ?_; (repeat' first | exact rfl | (refine qS ?_; constructor)))
def dvE (d : Dv) : Int := unl (dvOk d) 2
theorem C127 {i : Int} {d : Dv} : PFD Try.prog 127 [vi .i64 i, tr d] (vi .i64 (dvE d)) := by
  refine pi1 fn127 ?_
  (repeat' first | (refine Owe.same ?_; first | refine Owe.o ?_ | refine Owe.mk ?_ ?_) | (refine Fork.same ?_; (first | refine fkD ?_ ?_ | refine fkN ?_ ?_ | refine fkM ?_ ?_) <;> intro h) | ((first | refine OpsL.same ?_ | refine OpsDL.same ?_); first | refine pK C50 rfl rfl ?_ | refine pK C49 rfl rfl ?_) | refine MvQ.stay ?_)
  all_goals ((refine rqK rfl ?_; (repeat' first | exact rfl | (refine qS ?_; constructor))); rw [dvE]; refine congrArg (fun b => unb b 2) ?_; rw [Bool.eq_iff_iff]; (try simp only [decide_eq_true_eq, Bool.false_eq_true, false_iff]); omega)
theorem C126 {g : FuncId} {f : Dv → Int} (hg : ∀ (i : Int) (x : Dv), PFD Try.prog g [vi .i64 i, tr x] (vi .i64 (f x))) {l : List Dv} : l.length ≤ 1000000 → PFD Try.prog 126 [.c (trs l), .c (.fn g [])] (.tup [vi .i64 (eachE f 0 l).1, vi .i64 (eachE f 0 l).2]) := fun hl => by
  refine pi2 fn126 ?_
  (repeat' first | (refine Owe.same ?_; first | refine Owe.o ?_ | refine Owe.mk ?_ ?_) | (refine Fork.same ?_; (first | refine fkD ?_ ?_ | refine fkN ?_ ?_ | refine fkM ?_ ?_) <;> intro h) | refine MvQ.stay ?_)
  refine Sat.lp0 (fun k : Nat => [(11, vi .i64 k), (10, vi .i64 l.length), (9, .c (trs l)), (1, .c (.fn g []))]) (fun k => k ≤ l.length ∧ eachE f 0 l = eachE f k (l.drop k)) (fun k => l.length - k) 0 ⟨Nat.zero_le _, rfl⟩ (by ((first | refine qen ?_ | refine qvs ?_ | refine qeq ?_ | refine qst ?_ | refine qv ?_ | refine qc ?_ | refine qe ?_ | refine qcs ?_ | skip); (repeat' first | exact rfl | (refine qS ?_; constructor)))) ?_
  intro k hk
  (repeat' first | (refine Owe.same ?_; first | refine Owe.o ?_ | refine Owe.mk ?_ ?_) | (refine Fork.same ?_; (first | refine fkD ?_ ?_ | refine fkN ?_ ?_ | refine fkM ?_ ?_) <;> intro h) | ((first | refine OpsL.same ?_ | refine OpsDL.same ?_); first | refine pK (hg _ _) rfl rfl ?_) | refine MvQ.stay ?_)
  · have e := eachE_drop f (0, 0, 0) l k (by omega)
    have h : ¬ f (l.getD k (0, 0, 0)) = 0 := h
    rw [if_neg h, ← hk.2] at e
    (refine rqK rfl ?_; (repeat' first | exact rfl | (refine qS ?_; constructor))) <;> rw [e] <;> rfl
  · have e := eachE_drop f (0, 0, 0) l k (by omega)
    have h : f (l.getD k (0, 0, 0)) = 0 := h
    rw [if_pos h, ← hk.2] at e
    exact again0 (k + 1) ⟨by omega, e⟩ (by omega) (by ((first | refine qen ?_ | refine qvs ?_ | refine qeq ?_ | refine qst ?_ | refine qv ?_ | refine qc ?_ | refine qe ?_ | refine qcs ?_ | skip); (repeat' first | exact rfl | (refine qS ?_; constructor))))
  · have e : eachE f 0 l = (0, 0) := by rw [hk.2, List.drop_of_length_le (by omega)]; rfl
    (refine rqK rfl ?_; (repeat' first | exact rfl | (refine qS ?_; constructor))) <;> rw [e]
/-- The error of devices, with an index. -/
def dvsE (l : List Dv) : Int × Int := if cntE l.length 5 = 0 then eachE dvE 0 l else (0, cntE l.length 5)
theorem C119 {l : List Dv} : l.length ≤ 1000000 → PFD Try.prog 119 [.c (trs l)] (.tup [vi .i64 (dvsE l).1, vi .i64 (dvsE l).2]) := fun hl => by
  have c1 := C126 (fun i x => C127 (i := i) (d := x)) hl
  refine pi2 fn119 ?_
  (repeat' first | (refine Owe.same ?_; first | refine Owe.o ?_ | refine Owe.mk ?_ ?_) | (refine Fork.same ?_; (first | refine fkD ?_ ?_ | refine fkN ?_ ?_ | refine fkM ?_ ?_) <;> intro h) | ((first | refine OpsL.same ?_ | refine OpsDL.same ?_); first | refine pK C110 rfl rfl ?_ | refine pK c1 rfl rfl ?_) | refine MvQ.stay ?_)
  · have h : ¬ cntE l.length 5 = 0 := h
    (refine rqK rfl ?_; (repeat' first | exact rfl | (refine qS ?_; constructor))) <;> rw [dvsE, if_neg h]
  · have h : cntE l.length 5 = 0 := h
    (refine rqK rfl ?_; (repeat' first | exact rfl | (refine qS ?_; constructor))) <;> rw [dvsE, if_pos h]
theorem C95 {l : List Dv} : l.length ≤ 1000000 → PFD Try.prog 95 [.c (trs l)] (vi .i64 (dvsE l).2) := fun hl => by
  refine pi1 fn95 ?_
  (repeat' first | (refine Owe.same ?_; first | refine Owe.o ?_ | refine Owe.mk ?_ ?_) | (refine Fork.same ?_; (first | refine fkD ?_ ?_ | refine fkN ?_ ?_ | refine fkM ?_ ?_) <;> intro h) | ((first | refine OpsL.same ?_ | refine OpsDL.same ?_); first | refine pK C119 rfl rfl ?_) | refine MvQ.stay ?_)
  (refine rqK rfl ?_; (repeat' first | exact rfl | (refine qS ?_; constructor)))
theorem cntE_ok {n m : Int} : cntE n m = 0 ↔ 0 < n ∧ n ≤ m := by
  rw [cntE, fst0, fst0]
  simp only [unl0 (show (10 : Int) ≠ 0 by decide), unl0 (show (8 : Int) ≠ 0 by decide), fst_nil, and_true]
/-- Valid devices. -/
structure DvOk (l : List Dv) : Prop where
  n : 0 < l.length ∧ l.length ≤ 5
  d : ∀ i, i < l.length → dvOk (l.getD i (0, 0, 0))
theorem dvsE_ok {l : List Dv} : (dvsE l).2 = 0 ↔ DvOk l := by
  constructor
  · intro h
    by_cases h0 : cntE l.length 5 = 0
    · rw [dvsE, if_pos h0, eachE_ok] at h
      have := cntE_ok.1 h0
      exact ⟨by omega, fun i hi => by have := h _ (getD_mem (0, 0, 0) hi); rwa [dvE, unl0 (by decide)] at this⟩
    · rw [dvsE, if_neg h0] at h; exact absurd h h0
  · intro h
    have h0 : cntE l.length 5 = 0 := cntE_ok.2 (by have := h.n; omega)
    rw [dvsE, if_pos h0, eachE_ok]
    intro x hx
    obtain ⟨i, hi, rfl⟩ := List.getElem_of_mem hx
    have := h.d i hi
    rw [List.getD_eq_getElem?_getD, List.getElem?_eq_getElem hi] at this
    rw [dvE, unl0 (by decide)]; exact this
abbrev dv (l : List Dv) (i : Int) : Dv := l.getD i.toNat (0, 0, 0)
/-- The devices of a set disturb each other, up to one of them. -/
def pwB (l : List Dv) (t : List Int) (k : Nat) : Bool := (List.range k).all fun i => (List.range i).all fun j => dist (dv l (t.getD i 0)) (dv l (t.getD j 0))
def wnS (l : List Dv) (t : List Int) : Nat → Int
  | 0 => 0
  | k + 1 => wnS l t k - win (dv l (t.getD k 0))
theorem pwB_succ (l : List Dv) (t : List Int) (k : Nat) : pwB l t (k + 1) = (pwB l t k && (List.range k).all fun j => dist (dv l (t.getD k 0)) (dv l (t.getD j 0))) := by
  simp [pwB, List.range_succ]
def bdC (l : List Dv) (t : List Int) : Int × Bool := if pwB l t t.length = true then (wnS l t t.length, true) else (0, false)
theorem wnS_bd {l : List Dv} {t : List Int} (hl : DvOk l) (ht : ∀ x ∈ t, 0 ≤ x ∧ x < l.length) : ∀ k, k ≤ t.length → -(20 * (k : Int)) ≤ wnS l t k ∧ wnS l t k ≤ 0
  | 0, _ => by simp [wnS]
  | k + 1, hk => by
    have ih := wnS_bd hl ht k (by omega)
    have h1 := ht _ (getD_mem 0 (show k < t.length by omega))
    have h2 := hl.d (t.getD k 0).toNat (by omega)
    simp only [wnS, win, dv]; omega
theorem pwB_le {l : List Dv} {t : List Int} {k m : Nat} (hkm : k ≤ m) (h : pwB l t m = true) : pwB l t k = true := by
  simp only [pwB, List.all_eq_true, List.mem_range] at h ⊢
  exact fun i hi j hj => h i (by omega) j hj
theorem C96 {l : List Dv} {t : List Int} (hl : DvOk l) (htl : t.length ≤ 1000000) (ht : ∀ x ∈ t, 0 ≤ x ∧ x < l.length) : PFD Try.prog 96 [.c (ints t), .c (.rp [.sl 3 l.length fun i => r3 (l.getD i (0, 0, 0))])] (.tup [vi .i64 (bdC l t).1, vbl (bdC l t).2]) := by
  have hn := hl.n
  refine pi2 fn96 ?_
  (repeat' first | (refine Owe.same ?_; first | refine Owe.o ?_ | refine Owe.mk ?_ ?_) | (refine Fork.same ?_; (first | refine fkD ?_ ?_ | refine fkN ?_ ?_ | refine fkM ?_ ?_) <;> intro h) | refine MvQ.stay ?_)
  refine Sat.lp0 (fun k : Nat => [(12, vi .i64 k), (11, vi .i64 t.length), (10, .c (ints t)), (0, .c (ints t)), (1, .c (.rp [.sl 3 l.length fun i => r3 (l.getD i (0, 0, 0))])), (5, vi .i64 (wnS l t k))]) (fun k => k ≤ t.length ∧ pwB l t k = true) (fun k => t.length - k) 0 ⟨Nat.zero_le _, rfl⟩ (by ((first | refine qen ?_ | refine qvs ?_ | refine qeq ?_ | refine qst ?_ | refine qv ?_ | refine qc ?_ | refine qe ?_ | refine qcs ?_ | skip); (repeat' first | exact rfl | (refine qS ?_; constructor)))) ?_
  intro k hk
  have hb := wnS_bd hl ht k hk.1
  refine Fork.dec (fun hlt => ?_) (fun hlt => ?_)
  · have hlt : k < t.length := by omega
    have h1 := ht _ (getD_mem 0 hlt)
    have h2 := hl.d (t.getD k 0).toNat (by omega)
    (repeat' first | (refine Owe.same ?_; first | refine Owe.o ?_ | refine Owe.mk ?_ ?_) | (refine Fork.same ?_; (first | refine fkD ?_ ?_ | refine fkN ?_ ?_ | refine fkM ?_ ?_) <;> intro h) | refine MvQ.stay ?_)
    refine Sat.lp0 (fun j : Nat => [(21, vi .i64 j), (20, vi .i64 k), (19, .c (.d (.sl 1 k fun i => r1 (t.getD i 0)))), (7, vi .i64 (t.getD k 0)), (12, vi .i64 k), (11, vi .i64 t.length), (10, .c (ints t)), (0, .c (ints t)), (1, .c (.rp [.sl 3 l.length fun i => r3 (l.getD i (0, 0, 0))])), (5, vi .i64 (wnS l t k))]) (fun j => j ≤ k ∧ (List.range j).all (fun j => dist (dv l (t.getD k 0)) (dv l (t.getD j 0))) = true) (fun j => k - j) 0 ⟨Nat.zero_le _, rfl⟩ (by ((first | refine qen ?_ | refine qvs ?_ | refine qeq ?_ | refine qst ?_ | refine qv ?_ | refine qc ?_ | refine qe ?_ | refine qcs ?_ | skip); (repeat' first | exact rfl | (refine qS ?_; constructor)))) ?_
    intro j hj
    refine Fork.dec (fun hlj => ?_) (fun hlj => ?_)
    · have hlj : j < k := by omega
      have h3 := ht _ (getD_mem 0 (show j < t.length by omega))
      have h4 := hl.d (t.getD j 0).toNat (by omega)
      have c97 : PFD Try.prog 97 _ _ := C97 (a := dv l (t.getD k 0)) (b := dv l (t.getD j 0)) ⟨h2, h4⟩
      (repeat' first | (refine Owe.same ?_; first | refine Owe.o ?_ | refine Owe.mk ?_ ?_) | (refine Fork.same ?_; (first | refine fkD ?_ ?_ | refine fkN ?_ ?_ | refine fkM ?_ ?_) <;> intro h) | ((first | refine OpsL.same ?_ | refine OpsDL.same ?_); first | refine pK c97 rfl rfl ?_) | refine MvQ.stay ?_)
      · have h : dist (dv l (t.getD k 0)) (dv l (t.getD j 0)) = false := decide_eq_false h
        have e : bdC l t = (0, false) := by
          rw [bdC, if_neg]
          intro hp
          have := pwB_le (show k + 1 ≤ t.length by omega) hp
          rw [pwB_succ, Bool.and_eq_true] at this
          have := (List.all_eq_true.1 this.2) j (List.mem_range.2 hlj)
          rw [h] at this; cases this
        (refine rqK rfl ?_; (repeat' first | exact rfl | (refine qS ?_; constructor))) <;> rw [e]
      · have h : dist (dv l (t.getD k 0)) (dv l (t.getD j 0)) = true := decide_eq_true h
        refine again0 (j + 1) ⟨hlj, ?_⟩ (by omega) (by ((first | refine qen ?_ | refine qvs ?_ | refine qeq ?_ | refine qst ?_ | refine qv ?_ | refine qc ?_ | refine qe ?_ | refine qcs ?_ | skip); (repeat' first | exact rfl | (refine qS ?_; constructor))))
        rw [List.range_succ, List.all_append, hj.2]
        simp only [List.all_cons, List.all_nil, Bool.and_true, Bool.true_and]; exact h
    · have : j = k := by omega
      subst this
      have c98 : PFD Try.prog 98 _ _ := C98 (d := dv l (t.getD j 0)) h2
      have hw : 1 ≤ win (dv l (t.getD j 0)) ∧ win (dv l (t.getD j 0)) ≤ 20 := by simp only [win, dv]; omega
      (repeat' first | (refine Owe.same ?_; first | refine Owe.o ?_ | refine Owe.mk ?_ ?_) | (refine Fork.same ?_; (first | refine fkD ?_ ?_ | refine fkN ?_ ?_ | refine fkM ?_ ?_) <;> intro h) | ((first | refine OpsL.same ?_ | refine OpsDL.same ?_); first | refine pK c98 rfl rfl ?_) | refine MvQ.stay ?_)
      exact again0 (j + 1) ⟨hlt, by rw [pwB_succ, hk.2, hj.2]; rfl⟩ (by omega) (by ((first | refine qen ?_ | refine qvs ?_ | refine qeq ?_ | refine qst ?_ | refine qv ?_ | refine qc ?_ | refine qe ?_ | refine qcs ?_ | skip); (repeat' first | exact rfl | (refine qS ?_; constructor))))
  · have : k = t.length := by omega
    subst this
    (repeat' first | (refine Owe.same ?_; first | refine Owe.o ?_ | refine Owe.mk ?_ ?_) | (refine Fork.same ?_; (first | refine fkD ?_ ?_ | refine fkN ?_ ?_ | refine fkM ?_ ?_) <;> intro h) | refine MvQ.stay ?_)
    have e : bdC l t = (wnS l t t.length, true) := by rw [bdC, if_pos hk.2]
    (refine rqK rfl ?_; (repeat' first | exact rfl | (refine qS ?_; constructor))) <;> rw [e]
/-- The best set for the bound. -/
abbrev bdK (l : List Dv) : BSt := bestK (bdC l) l.length (2 ^ l.length)
theorem bestK_lo {c : List Int → Int × Bool} {n : Nat} {lo : Int} (hlo : lo ≤ 0) (h : ∀ b, lo ≤ (c (subL n b)).1 ∧ (c (subL n b)).1 ≤ 0) : ∀ b, lo ≤ (bestK c n b).p ∧ (bestK c n b).p ≤ 0
  | 0 => by simp [bestK, hlo]
  | b + 1 => by
    have ih := bestK_lo hlo h b
    simp only [bestK]
    split
    · exact h b
    · exact ih
theorem bdC_bd {l : List Dv} (hl : DvOk l) (b : Nat) : -100 ≤ (bdC l (subL l.length b)).1 ∧ (bdC l (subL l.length b)).1 ≤ 0 := by
  have h1 := wnS_bd hl (t := subL l.length b) (fun x hx => subL_mem hx) _ (Nat.le_refl _)
  have h2 : (subL l.length b).length ≤ l.length := fltL_len _ _
  have h3 := hl.n
  rw [bdC]
  split
  · simp only; omega
  · simp
theorem C73 {l : List Dv} : l.length ≤ 1000000 → PFD Try.prog 73 [.c (trs l)] (.tup [.c (ints (if (dvsE l).2 = 0 then (bdK l).l else [])), vi .i64 (if (dvsE l).2 = 0 then -(bdK l).p else 0), vi .i64 (dvsE l).2]) := fun hl => by
  have c1 := C95 hl
  by_cases h0 : (dvsE l).2 = 0
  · have hO := dvsE_ok.1 h0
    have hn := hO.n
    have c2 := C68 (g := 96) (rows := [[.sl 3 l.length fun i => r3 (l.getD i (0, 0, 0))]]) (c := bdC l) (n := l.length) (fun t ht hx => C96 hO ht hx) (show l.length ≤ 20 by omega)
    have hp := bestK_lo (c := bdC l) (n := l.length) (lo := -100) (by decide) (fun b => bdC_bd hO b) (2 ^ l.length)
    rw [if_pos h0, if_pos h0]
    rw [h0] at c1
    refine pi3 fn73 ?_
    (repeat' first | (refine Owe.same ?_; first | refine Owe.o ?_ | refine Owe.mk ?_ ?_) | (refine Fork.same ?_; (first | refine fkD ?_ ?_ | refine fkN ?_ ?_ | refine fkM ?_ ?_) <;> intro h) | ((first | refine OpsL.same ?_ | refine OpsDL.same ?_); first | refine pK c1 rfl rfl ?_ | refine pK c2 rfl rfl ?_) | refine MvQ.stay ?_)
    · exact absurd rfl h
    · (refine rqK rfl ?_; (repeat' first | exact rfl | (refine qS ?_; constructor)))
      exact h0.symm
  · rw [if_neg h0, if_neg h0]
    refine pi3 fn73 ?_
    (repeat' first | (refine Owe.same ?_; first | refine Owe.o ?_ | refine Owe.mk ?_ ?_) | (refine Fork.same ?_; (first | refine fkD ?_ ?_ | refine fkN ?_ ?_ | refine fkM ?_ ?_) <;> intro h) | ((first | refine OpsL.same ?_ | refine OpsDL.same ?_); first | refine pK c1 rfl rfl ?_) | refine MvQ.stay ?_)
    · (refine rqK rfl ?_; (repeat' first | exact rfl | (refine qS ?_; constructor)))
    · exact absurd h h0
end Go.Pw

set_option linter.unusedSimpArgs false
namespace Go.Pw
set_option maxRecDepth 2000
open Go Go.Proofs A1 A2 A3 A4
theorem tmod_nn {a b : Int} (ha : 0 ≤ a) (hb : 0 < b) : a.tmod b = a % b ∧ 0 ≤ a % b ∧ a % b < b := ⟨Int.tmod_eq_emod_of_nonneg ha, Int.emod_nonneg _ (by omega), Int.emod_lt_of_pos _ hb⟩
/-- Whether two windows have a common tick. -/
def mtB (a b : Dv) (s t c : Int) : Bool := decide ((t - s + c) % c < win a) || decide ((c - (t - s + c) % c) % c < win b)
theorem C128 {a b : Dv} {s t c : Int} : ((dvOk a ∧ dvOk b) ∧ (0 < c ∧ c ≤ 40) ∧ (0 ≤ s ∧ s < c) ∧ 0 ≤ t ∧ t < c) → PFD Try.prog 128 [tr a, tr b, vi .i64 s, vi .i64 t, vi .i64 c] (vbl (mtB a b s t c)) := fun ⟨⟨ha, hb⟩, hc, hs, ht⟩ => by
  obtain ⟨e1, e2, e3⟩ := tmod_nn (a := t - s + c) (b := c) (by omega) hc.1
  obtain ⟨e4, e5, e6⟩ := tmod_nn (a := c - (t - s + c) % c) (b := c) (by omega) hc.1
  rw [← e1] at e2 e3 e4 e5 e6
  have e : mtB a b s t c = (decide ((t - s + c).tmod c < win a) || decide ((c - (t - s + c).tmod c).tmod c < win b)) := by rw [e4, e1]; rfl
  rw [e]
  refine pi1 fn128 ?_
  (repeat' first | (refine Owe.same ?_; first | refine Owe.o ?_ | refine Owe.mk ?_ ?_) | (refine Fork.same ?_; (first | refine fkD ?_ ?_ | refine fkN ?_ ?_ | refine fkM ?_ ?_) <;> intro h) | ((first | refine OpsL.same ?_ | refine OpsDL.same ?_); first | refine pK C98 rfl rfl ?_) | refine MvQ.stay ?_)
  · (refine rqK rfl ?_; (repeat' first | exact rfl | (refine qS ?_; constructor)))
    rw [decide_eq_true h]; rfl
  · (refine rqK rfl ?_; (repeat' first | exact rfl | (refine qS ?_; constructor)))
    rw [decide_eq_false h]; rfl
theorem C120 {l : List Int} : l.length ≤ 1000000 → PFD Try.prog 120 [.c (ints l)] (.c (.cl 1 l.length fun i => r1 (l.getD i 0))) := fun hl => by
  refine pi1 fn120 ?_
  (repeat' first | (refine Owe.same ?_; first | refine Owe.o ?_ | refine Owe.mk ?_ ?_) | (refine Fork.same ?_; (first | refine fkD ?_ ?_ | refine fkN ?_ ?_ | refine fkM ?_ ?_) <;> intro h) | refine MvQ.stay ?_)
  (refine rqK rfl ?_; (repeat' first | exact rfl | (refine qS ?_; constructor)))
/-- Whether two devices blind each other, or one itself. -/
def blB (l : List Dv) (st : List Int) (i k : Nat) (c : Int) : Bool :=
  if i = k then decide (c < win (l.getD i (0, 0, 0))) else dist (l.getD i (0, 0, 0)) (l.getD k (0, 0, 0)) && mtB (l.getD i (0, 0, 0)) (l.getD k (0, 0, 0)) (st.getD i 0) (st.getD k 0) c
/-- Starts within a cycle. -/
abbrev stOk (st : List Int) (c : Int) : Prop := ∀ i, i < st.length → 0 ≤ st.getD i 0 ∧ st.getD i 0 < c
theorem C121 {l : List Dv} {st : List Int} {i k : Nat} {c : Int} : (DvOk l ∧ (0 < c ∧ c ≤ 40) ∧ stOk st c ∧ (i < l.length ∧ k < l.length) ∧ i < st.length ∧ k < st.length) → PFD Try.prog 121 [.c (trs l), .c (ints st), vi .i64 i, vi .i64 k, vi .i64 c] (vbl (blB l st i k c)) := fun ⟨hl, hc, hs, hi, hst⟩ => by
  have h1 := hl.d i hi.1
  have h2 := hl.d k hi.2
  have h3 := hs i hst.1
  have h4 := hs k hst.2
  have c98 : PFD Try.prog 98 _ _ := C98 (d := l.getD i (0, 0, 0)) h1
  have c97 : PFD Try.prog 97 _ _ := C97 (a := l.getD i (0, 0, 0)) (b := l.getD k (0, 0, 0)) ⟨h1, h2⟩
  have c128 : PFD Try.prog 128 _ _ := C128 (a := l.getD i (0, 0, 0)) (b := l.getD k (0, 0, 0)) (s := st.getD i 0) (t := st.getD k 0) (c := c) ⟨⟨h1, h2⟩, hc, h3, h4⟩
  refine pi1 fn121 ?_
  (repeat' first | (refine Owe.same ?_; first | refine Owe.o ?_ | refine Owe.mk ?_ ?_) | (refine Fork.same ?_; (first | refine fkD ?_ ?_ | refine fkN ?_ ?_ | refine fkM ?_ ?_) <;> intro h) | ((first | refine OpsL.same ?_ | refine OpsDL.same ?_); first | refine pK c98 rfl rfl ?_ | refine pK c97 rfl rfl ?_ | refine pK c128 rfl rfl ?_) | refine MvQ.stay ?_)
  · have : i = k := by omega
    subst this
    (refine rqK rfl ?_; (repeat' first | exact rfl | (refine qS ?_; constructor)))
    rw [blB, if_pos rfl]
  · rename_i h5
    have h : dist (l.getD i (0, 0, 0)) (l.getD k (0, 0, 0)) = true := decide_eq_true h
    (refine rqK rfl ?_; (repeat' first | exact rfl | (refine qS ?_; constructor)))
    rw [blB, if_neg (by omega), h]; rfl
  · rename_i h5
    have h : dist (l.getD i (0, 0, 0)) (l.getD k (0, 0, 0)) = false := decide_eq_false h
    (refine rqK rfl ?_; (repeat' first | exact rfl | (refine qS ?_; constructor)))
    rw [blB, if_neg (by omega), h]; rfl
def tryL (g : Nat → Option (Option (List Int))) : Nat → Nat → Option (List Int)
  | 0, _ => none
  | r + 1, n => match g n with
    | none => tryL g r (n + 1)
    | some o => o
/-- A device that is placed blinds one before it, or itself. -/
def blk (l : List Dv) (st : List Int) (c : Int) (k : Nat) : Bool := (List.range k).any fun j => blB l st j (st.length - 1) c
def plS (l : List Dv) (c : Nat) : Nat → List Int → Option (List Int)
  | 0, st => some st
  | f + 1, st => tryL (fun n => if blk l (st ++ [(n : Int)]) c (st.length + 1) = true then none else match plS l c f (st ++ [(n : Int)]) with
    | some o => some (some o)
    | none => if st.length = 0 then some none else none) c 0
def plV : Option (List Int) → V
  | none => .c (.d (.v (.slice none 0 0)))
  | some o => .c (ints o)
theorem tryL_pos {g : Nat → Option (Option (List Int))} {P : List Int → Prop} (h : ∀ n o, g n = some (some o) → P o) : ∀ (r n : Nat) (o : List Int), tryL g r n = some o → P o
  | 0, n, o, e => by cases e
  | r + 1, n, o, e => by
    rw [tryL] at e
    split at e
    · exact tryL_pos h r (n + 1) o e
    · rename_i q hq
      subst e
      exact h n o hq
theorem plS_len {l : List Dv} {c : Nat} : ∀ (f : Nat) (st o : List Int), plS l c f st = some o → o.length = st.length + f
  | 0, st, o, h => by simp only [plS, Option.some.injEq] at h; subst h; rfl
  | f + 1, st, o, h => by
    rw [plS] at h
    refine tryL_pos (P := fun o => o.length = st.length + (f + 1)) (fun n o hn => ?_) _ _ _ h
    split at hn
    · cases hn
    · split at hn
      · rename_i o' ho
        cases hn
        have := plS_len f _ _ ho
        simp at this; omega
      · split at hn <;> cases hn
theorem stOk_app {st : List Int} {c : Int} {n : Int} (h : stOk st c) (hn : 0 ≤ n ∧ n < c) : stOk (st ++ [n]) c := fun i hi => by
  rw [List.length_append] at hi
  by_cases h1 : i < st.length
  · have := h i h1
    simpa [List.getD_eq_getElem?_getD, List.getElem?_append_left h1] using this
  · have : i = st.length := by simp at hi; omega
    subst this
    simpa [List.getD_eq_getElem?_getD] using hn
/-- What a first start leads to. -/
def plG (l : List Dv) (c f : Nat) (st : List Int) (n : Nat) : Option (Option (List Int)) := if blk l (st ++ [(n : Int)]) c (st.length + 1) = true then none else match plS l c f (st ++ [(n : Int)]) with
    | some o => some (some o)
    | none => if st.length = 0 then some none else none
theorem plS_succ (l : List Dv) (c f : Nat) (st : List Int) : plS l c (f + 1) st = tryL (plG l c f st) c 0 := rfl
theorem blk_succ (l : List Dv) (st : List Int) (c : Int) (k : Nat) : blk l st c (k + 1) = (blk l st c k || blB l st k (st.length - 1) c) := by
  simp [blk, List.range_succ]
theorem blk_le {l : List Dv} {st : List Int} {c : Int} {k m : Nat} (hkm : k < m) (h : blB l st k (st.length - 1) c = true) : blk l st c m = true := by
  rw [blk, List.any_eq_true]; exact ⟨k, List.mem_range.2 hkm, h⟩
theorem C100 {l : List Dv} {c : Nat} (hl : DvOk l) (hc : 0 < c ∧ c ≤ 40) : ∀ (f : Nat) (st : List Int), st.length + f = l.length → stOk st c → PFD Try.prog 100 [.c (trs l), .c (ints st), vi .i64 c] (plV (plS l c f st))
  | 0, st, hf, hs => by
    have hn := hl.n
    rw [plS, plV]
    refine pi1 fn100 ?_
    (repeat' first | (refine Owe.same ?_; first | refine Owe.o ?_ | refine Owe.mk ?_ ?_) | (refine Fork.same ?_; (first | refine fkD ?_ ?_ | refine fkN ?_ ?_ | refine fkM ?_ ?_) <;> intro h) | refine MvQ.stay ?_)
    · (refine rqK rfl ?_; (repeat' first | exact rfl | (refine qS ?_; constructor)))
    · exfalso; omega
  | f + 1, st, hf, hs => by
    have hn := hl.n
    have ih := C100 hl hc f
    rw [plS_succ]
    obtain ⟨q, hq⟩ : ∃ q, tryL (plG l c f st) c 0 = q := ⟨_, rfl⟩
    rw [hq]
    refine pi1 fn100 ?_
    (repeat' first | (refine Owe.same ?_; first | refine Owe.o ?_ | refine Owe.mk ?_ ?_) | (refine Fork.same ?_; (first | refine fkD ?_ ?_ | refine fkN ?_ ?_ | refine fkM ?_ ?_) <;> intro h) | refine MvQ.stay ?_)
    · exfalso; omega
    refine Sat.lp0 (fun n : Nat => [(20, vi .i64 n), (19, vi .i64 c), (0, .c (trs l)), (1, .c (ints st)), (2, vi .i64 c), (7, vi .i64 st.length)]) (fun n => n ≤ c ∧ q = tryL (plG l c f st) (c - n) n) (fun n => c - n) 0 ⟨Nat.zero_le _, hq.symm⟩ (by ((first | refine qen ?_ | refine qvs ?_ | refine qeq ?_ | refine qst ?_ | refine qv ?_ | refine qc ?_ | refine qe ?_ | refine qcs ?_ | skip); (repeat' first | exact rfl | (refine qS ?_; constructor)))) ?_
    intro n hn'
    have he := hn'.2
    refine Fork.dec (fun hlt => ?_) (fun hlt => ?_)
    · have hlt : n < c := by omega
      rw [show c - n = (c - (n + 1)) + 1 by omega, tryL] at he
      have hln : (st ++ [(n : Int)]).length = st.length + 1 := by simp
      have hso : stOk (st ++ [(n : Int)]) c := stOk_app hs (by omega)
      (repeat' first | (refine Owe.same ?_; first | refine Owe.o ?_ | refine Owe.mk ?_ ?_) | (refine Fork.same ?_; (first | refine fkD ?_ ?_ | refine fkN ?_ ?_ | refine fkM ?_ ?_) <;> intro h) | ((first | refine OpsL.same ?_ | refine OpsDL.same ?_); first | refine pK C120 rfl rfl ?_) | refine MvQ.stay ?_)
      refine SatL.as 9 (.c (ints (st ++ [(n : Int)]))) (QQ.sound (.dapp ⟨_, rfl, rfl⟩)) ?_
      refine SatL.as 28 (.c (ints (st ++ [(n : Int)]))) (QQ.sound (.dapp ⟨_, rfl, rfl⟩)) ?_
      refine Sat.lp0 (fun k : Nat => [(30, vi .i64 k), (29, vi .i64 (st.length + 1 : Nat)), (28, .c (ints (st ++ [(n : Int)]))), (9, .c (ints (st ++ [(n : Int)]))), (20, vi .i64 n), (19, vi .i64 c), (0, .c (trs l)), (1, .c (ints st)), (2, vi .i64 c), (7, vi .i64 st.length)]) (fun k => k ≤ st.length + 1 ∧ blk l (st ++ [(n : Int)]) c k = false) (fun k => st.length + 1 - k) 0 ⟨Nat.zero_le _, rfl⟩ (by ((first | refine qen ?_ | refine qvs ?_ | refine qeq ?_ | refine qst ?_ | refine qv ?_ | refine qc ?_ | refine qe ?_ | refine qcs ?_ | skip); (repeat' first | exact rfl | (refine qS ?_; constructor)))) ?_
      intro k hk
      refine Fork.dec (fun hlk => ?_) (fun hlk => ?_)
      · have hlk : k < st.length + 1 := by omega
        have c121 : PFD Try.prog 121 _ _ := C121 (l := l) (st := st ++ [(n : Int)]) (i := k) (k := st.length) (c := c) ⟨hl, by omega, hso, by omega, by omega⟩
        have hbs := blk_succ l (st ++ [(n : Int)]) c k
        rw [show (st ++ [(n : Int)]).length - 1 = st.length by omega] at hbs
        (repeat' first | (refine Owe.same ?_; first | refine Owe.o ?_ | refine Owe.mk ?_ ?_) | (refine Fork.same ?_; (first | refine fkD ?_ ?_ | refine fkN ?_ ?_ | refine fkM ?_ ?_) <;> intro h) | ((first | refine OpsL.same ?_ | refine OpsDL.same ?_); first | refine pK c121 rfl rfl ?_) | refine MvQ.stay ?_)
        · have h : blB l (st ++ [(n : Int)]) k st.length c = true := h
          have hg : plG l c f st n = none := by
            rw [plG, if_pos]
            exact blk_le hlk (by rw [show (st ++ [(n : Int)]).length - 1 = st.length by omega]; exact h)
          rw [hg] at he
          exact again0 (n + 1) ⟨hlt, he⟩ (by omega) (by ((first | refine qen ?_ | refine qvs ?_ | refine qeq ?_ | refine qst ?_ | refine qv ?_ | refine qc ?_ | refine qe ?_ | refine qcs ?_ | skip); (repeat' first | exact rfl | (refine qS ?_; constructor))))
        · have h : blB l (st ++ [(n : Int)]) k st.length c = false := h
          exact again0 (k + 1) ⟨hlk, by rw [hbs, hk.2, h]; rfl⟩ (by omega) (by ((first | refine qen ?_ | refine qvs ?_ | refine qeq ?_ | refine qst ?_ | refine qv ?_ | refine qc ?_ | refine qe ?_ | refine qcs ?_ | skip); (repeat' first | exact rfl | (refine qS ?_; constructor))))
      · have : k = st.length + 1 := by omega
        subst this
        have c100 := ih (st ++ [(n : Int)]) (by omega) hso
        rcases hp : plS l c f (st ++ [(n : Int)]) with _ | o
        · rw [hp] at c100
          have hg : plG l c f st n = if st.length = 0 then some none else none := by
            rw [plG, if_neg (by rw [hk.2]; decide), hp]
          (repeat' first | (refine Owe.same ?_; first | refine Owe.o ?_ | refine Owe.mk ?_ ?_) | (refine Fork.same ?_; (first | refine fkD ?_ ?_ | refine fkN ?_ ?_ | refine fkM ?_ ?_) <;> intro h) | ((first | refine OpsL.same ?_ | refine OpsDL.same ?_); first | refine pK c100 rfl rfl ?_) | refine MvQ.stay ?_)
          · have h : st.length = 0 := by omega
            rw [hg, if_pos h] at he
            have he : q = none := he
            subst he
            rw [plV]
            (refine rqK rfl ?_; (repeat' first | exact rfl | (refine qS ?_; constructor)))
          · rw [hg, if_neg (by omega)] at he
            exact again0 (n + 1) ⟨hlt, he⟩ (by omega) (by ((first | refine qen ?_ | refine qvs ?_ | refine qeq ?_ | refine qst ?_ | refine qv ?_ | refine qc ?_ | refine qe ?_ | refine qcs ?_ | skip); (repeat' first | exact rfl | (refine qS ?_; constructor))))
        · rw [hp] at c100
          have hlo := plS_len _ _ _ hp
          have hg : plG l c f st n = some (some o) := by
            rw [plG, if_neg (by rw [hk.2]; decide), hp]
          rw [hg] at he
          have he : q = some o := he
          subst he
          rw [plV] at c100 ⊢
          (repeat' first | (refine Owe.same ?_; first | refine Owe.o ?_ | refine Owe.mk ?_ ?_) | (refine Fork.same ?_; (first | refine fkD ?_ ?_ | refine fkN ?_ ?_ | refine fkM ?_ ?_) <;> intro h) | ((first | refine OpsL.same ?_ | refine OpsDL.same ?_); first | refine pK c100 rfl rfl ?_) | refine MvQ.stay ?_)
          (refine rqK rfl ?_; (repeat' first | exact rfl | (refine qS ?_; constructor)))
    · (repeat' first | (refine Owe.same ?_; first | refine Owe.o ?_ | refine Owe.mk ?_ ?_) | (refine Fork.same ?_; (first | refine fkD ?_ ?_ | refine fkN ?_ ?_ | refine fkM ?_ ?_) <;> intro h) | refine MvQ.stay ?_)
      have : n = c := by omega
      subst this
      rw [Nat.sub_self, tryL] at he
      subst he
      rw [plV]
      (refine rqK rfl ?_; (repeat' first | exact rfl | (refine qS ?_; constructor)))
end Go.Pw

set_option linter.unusedSimpArgs false
namespace Go.Pw
set_option maxRecDepth 2000
open Go Go.Proofs A1 A2 A3 A4
abbrev Tn := Int × List Int
abbrev tv (t : Tn) : V := .agg [int t.1, ints t.2]
theorem cyE_ok {n : Int} : cyE n = 0 ↔ 1 ≤ n ∧ n ≤ 40 := by rw [cyE, unl0 (by decide)]
theorem fst2 {a b : Int} : fstE [a, b] = 0 ↔ a = 0 ∧ b = 0 := by rw [fst0, fst0]; simp only [fst_nil, and_true]
/-- The first turns of a cycle. -/
def ftR (l : List Dv) (c : Int) : Tn × Int := if fstE [(dvsE l).2, cyE c] = 0 then match plS l c.toNat l.length [] with
    | none => ((0, []), 12)
    | some o => ((c, o), 0)
  else ((0, []), fstE [(dvsE l).2, cyE c])
theorem C74 {l : List Dv} {c : Int} : l.length ≤ 1000000 → PFD Try.prog 74 [.c (trs l), vi .i64 c] (.tup [tv (ftR l c).1, vi .i64 (ftR l c).2]) := fun hl => by
  have c95 := C95 hl
  by_cases h0 : fstE [(dvsE l).2, cyE c] = 0
  · obtain ⟨h1, h2⟩ := fst2.1 h0
    have hO := dvsE_ok.1 h1
    have hc := cyE_ok.1 h2
    have e : ((c.toNat : Nat) : Int) = c := by omega
    have c100 := C100 (c := c.toNat) hO (by omega) l.length [] (by simp) (fun i hi => by cases hi)
    rw [e] at c100
    rcases hp : plS l c.toNat l.length [] with _ | o
    · rw [hp, plV] at c100
      have hr : ftR l c = ((0, []), 12) := by rw [ftR, if_pos h0, hp]
      rw [hr]
      refine pi2 fn74 ?_
      (repeat' first | (refine Owe.same ?_; first | refine Owe.o ?_ | refine Owe.mk ?_ ?_) | (refine Fork.same ?_; (first | refine fkD ?_ ?_ | refine fkN ?_ ?_ | refine fkM ?_ ?_) <;> intro h) | ((first | refine OpsL.same ?_ | refine OpsDL.same ?_); first | refine pK c95 rfl rfl ?_ | refine pK C99 rfl rfl ?_ | refine pK C47 rfl rfl ?_ | refine pK c100 rfl rfl ?_) | refine MvQ.stay ?_)
      · exact absurd h0 h
      · (refine rqK rfl ?_; (repeat' first | exact rfl | (refine qS ?_; constructor)))
    · have hlo := plS_len _ _ _ hp
      have hn := hO.n
      rw [hp, plV] at c100
      have hr : ftR l c = ((c, o), 0) := by rw [ftR, if_pos h0, hp]
      rw [hr]
      refine pi2 fn74 ?_
      (repeat' first | (refine Owe.same ?_; first | refine Owe.o ?_ | refine Owe.mk ?_ ?_) | (refine Fork.same ?_; (first | refine fkD ?_ ?_ | refine fkN ?_ ?_ | refine fkM ?_ ?_) <;> intro h) | ((first | refine OpsL.same ?_ | refine OpsDL.same ?_); first | refine pK c95 rfl rfl ?_ | refine pK C99 rfl rfl ?_ | refine pK C47 rfl rfl ?_ | refine pK c100 rfl rfl ?_) | refine MvQ.stay ?_)
      · exact absurd h0 h
      · (refine rqK rfl ?_; (repeat' first | exact rfl | (refine qS ?_; constructor)))
  · have hr : ftR l c = ((0, []), fstE [(dvsE l).2, cyE c]) := by rw [ftR, if_neg h0]
    rw [hr]
    refine pi2 fn74 ?_
    (repeat' first | (refine Owe.same ?_; first | refine Owe.o ?_ | refine Owe.mk ?_ ?_) | (refine Fork.same ?_; (first | refine fkD ?_ ?_ | refine fkN ?_ ?_ | refine fkM ?_ ?_) <;> intro h) | ((first | refine OpsL.same ?_ | refine OpsDL.same ?_); first | refine pK c95 rfl rfl ?_ | refine pK C99 rfl rfl ?_ | refine pK C47 rfl rfl ?_) | refine MvQ.stay ?_)
    · (refine rqK rfl ?_; (repeat' first | exact rfl | (refine qS ?_; constructor)))
    · exact absurd h h0
def findT (l : List Dv) : Nat → Int → Tn × Int
  | 0, _ => ((0, []), 12)
  | r + 1, c => if (ftR l c).2 = 0 then ((ftR l c).1, 0) else findT l r (c + 1)
/-- The shortest turns. -/
def shR (l : List Dv) : Tn × Int := if (dvsE l).2 = 0 then findT l (41 + (bdK l).p).toNat (-(bdK l).p) else ((0, []), (dvsE l).2)
theorem C36 {l : List Dv} : l.length ≤ 1000000 → PFD Try.prog 36 [.c (trs l)] (.tup [tv (shR l).1, vi .i64 (shR l).2]) := fun hl => by
  have c73 := C73 hl
  by_cases h0 : (dvsE l).2 = 0
  · have hO := dvsE_ok.1 h0
    have hp := bestK_lo (c := bdC l) (n := l.length) (lo := -100) (by decide) (fun b => bdC_bd hO b) (2 ^ l.length)
    have hr : shR l = findT l (41 + (bdK l).p).toNat (-(bdK l).p) := by rw [shR, if_pos h0]
    rw [if_pos h0, if_pos h0, h0] at c73
    generalize (bdK l).p = p at c73 hp hr
    rw [hr]
    generalize hq : findT l (41 + p).toNat (-p) = q
    refine pi2 fn36 ?_
    (repeat' first | (refine Owe.same ?_; first | refine Owe.o ?_ | refine Owe.mk ?_ ?_) | (refine Fork.same ?_; (first | refine fkD ?_ ?_ | refine fkN ?_ ?_ | refine fkM ?_ ?_) <;> intro h) | ((first | refine OpsL.same ?_ | refine OpsDL.same ?_); first | refine pK c73 rfl rfl ?_) | refine MvQ.stay ?_)
    · exact absurd rfl h
    obtain ⟨b, hb⟩ : ∃ b : Nat, -p = b := ⟨(-p).toNat, by omega⟩
    have hb2 : b ≤ 100 := by omega
    have hq2 : findT l (41 - b) b = q := by rw [← hq, hb]; congr 1; omega
    refine Sat.lp (fun k : Nat => ⟨[(7, vi .i64 k), (2, .c (.bp 0 0)), (0, .c (trs l))], [(0, .box [int 0, .d (.v (.slice none 0 0))])], 1⟩) (fun k => k ≤ 101 ∧ b ≤ k ∧ q = findT l (41 - k) k) (fun k => 101 - k) b [0] ⟨by omega, by omega, hq2.symm⟩ ?_ ?_
    · (refine qis ?_ ?_ <;> (repeat' first | exact rfl | (refine qS ?_; constructor)))
      exact hb
    · intro k hk
      refine Fork.dec (fun hlt => ?_) (fun hlt => ?_)
      · have hlt : k < 41 := by omega
        have he := hk.2.2
        rw [show 41 - k = (41 - (k + 1)) + 1 by omega, findT] at he
        have c74 := C74 (l := l) (c := k) hl
        (repeat' first | (refine Owe.same ?_; first | refine Owe.o ?_ | refine Owe.mk ?_ ?_) | (refine Fork.same ?_; (first | refine fkD ?_ ?_ | refine fkN ?_ ?_ | refine fkM ?_ ?_) <;> intro h) | ((first | refine OpsL.same ?_ | refine OpsDL.same ?_); first | refine pK c74 rfl rfl ?_) | refine MvQ.stay ?_)
        · have h : (ftR l k).2 = 0 := h
          rw [if_pos h] at he
          subst he
          (refine rqK rfl ?_; (repeat' first | exact rfl | (refine qS ?_; constructor)))
        · have h : ¬ (ftR l k).2 = 0 := h
          rw [if_neg h] at he
          refine again (k + 1) [0] ⟨by omega, by omega, he⟩ (by omega) ?_
          (refine qis ?_ ?_ <;> (repeat' first | exact rfl | (refine qS ?_; constructor)))
      · have he := hk.2.2
        rw [show 41 - k = 0 by omega, findT] at he
        subst he
        (repeat' first | (refine Owe.same ?_; first | refine Owe.o ?_ | refine Owe.mk ?_ ?_) | (refine Fork.same ?_; (first | refine fkD ?_ ?_ | refine fkN ?_ ?_ | refine fkM ?_ ?_) <;> intro h) | refine MvQ.stay ?_)
        (refine rqK rfl ?_; (repeat' first | exact rfl | (refine qS ?_; constructor)))
  · have hr : shR l = ((0, []), (dvsE l).2) := by rw [shR, if_neg h0]
    rw [hr]
    rw [if_neg h0, if_neg h0] at c73
    refine pi2 fn36 ?_
    (repeat' first | (refine Owe.same ?_; first | refine Owe.o ?_ | refine Owe.mk ?_ ?_) | (refine Fork.same ?_; (first | refine fkD ?_ ?_ | refine fkN ?_ ?_ | refine fkM ?_ ?_) <;> intro h) | ((first | refine OpsL.same ?_ | refine OpsDL.same ?_); first | refine pK c73 rfl rfl ?_) | refine MvQ.stay ?_)
    · (refine rqK rfl ?_; (repeat' first | exact rfl | (refine qS ?_; constructor)))
    · exact absurd h h0
end Go.Pw

set_option linter.unusedSimpArgs false
namespace Go.Pw
set_option maxRecDepth 2000
open Go Go.Proofs A1 A2 A3 A4
abbrev lyOk (x : Dv) : Prop := (1 ≤ x.1 ∧ x.1 ≤ 10000) ∧ (1 ≤ x.2.1 ∧ x.2.1 ≤ 100) ∧ 1 ≤ x.2.2 ∧ x.2.2 ≤ 100
/-- The error of a layer. -/
def lyE (x : Dv) : Int := fstE [unl (lyOk x) 2, unl (x.2.1 ≤ x.2.2) 9]
theorem lyE_of {x : Dv} {p : Bool} (_h : ¬ fstE [unb p 2, unb (decide (x.2.1 ≤ x.2.2)) 9] = 0) (hp : p = decide (lyOk x)) : lyE x = fstE [unb p 2, unb (decide (x.2.1 ≤ x.2.2)) 9] := by subst hp; rfl
theorem lyE_of0 {x : Dv} {p : Bool} (h : fstE [unb p 2, unb (decide (x.2.1 ≤ x.2.2)) 9] = 0) (hp : p = decide (lyOk x)) : lyE x = 0 := by subst hp; exact h
theorem C111 {n : Int} : PFD Try.prog 111 [vi .i64 n] (vbl (decide (1 ≤ n ∧ n ≤ 100))) := by
  refine pi1 fn111 ?_
  (repeat' first | (refine Owe.same ?_; first | refine Owe.o ?_ | refine Owe.mk ?_ ?_) | (refine Fork.same ?_; (first | refine fkD ?_ ?_ | refine fkN ?_ ?_ | refine fkM ?_ ?_) <;> intro h) | ((first | refine OpsL.same ?_ | refine OpsDL.same ?_); first | refine pK C50 rfl rfl ?_) | refine MvQ.stay ?_)
  (refine rqK rfl ?_; (repeat' first | exact rfl | (refine qS ?_; constructor)))
/-- The error of layers, with an index. -/
def lysE (l : List Dv) : Int × Int := if cntE l.length 6 = 0 then eachE lyE 0 l else (0, cntE l.length 6)
theorem C85 {l : List Dv} : l.length ≤ 1000000 → PFD Try.prog 85 [.c (trs l)] (.tup [vi .i64 (lysE l).1, vi .i64 (lysE l).2]) := fun hl => by
  refine pi2 fn85 ?_
  (repeat' first | (refine Owe.same ?_; first | refine Owe.o ?_ | refine Owe.mk ?_ ?_) | (refine Fork.same ?_; (first | refine fkD ?_ ?_ | refine fkN ?_ ?_ | refine fkM ?_ ?_) <;> intro h) | ((first | refine OpsL.same ?_ | refine OpsDL.same ?_); first | refine pK C110 rfl rfl ?_) | refine MvQ.stay ?_)
  · have h : ¬ cntE l.length 6 = 0 := h
    (refine rqK rfl ?_; (repeat' first | exact rfl | (refine qS ?_; constructor))) <;> rw [lysE, if_neg h]
  · have h : cntE l.length 6 = 0 := h
    have hr : lysE l = eachE lyE 0 l := by rw [lysE, if_pos h]
    rw [hr]
    refine Ops.cs rfl rfl (CallS.of fn112 rfl ?_)
    (repeat' first | (refine Owe.same ?_; first | refine Owe.o ?_ | refine Owe.mk ?_ ?_) | (refine Fork.same ?_; (first | refine fkD ?_ ?_ | refine fkN ?_ ?_ | refine fkM ?_ ?_) <;> intro h) | refine MvQ.stay ?_)
    refine Sat.lp (fun k : Nat => ⟨[(11, vi .i64 k), (10, vi .i64 l.length), (9, .c (trs l)), (1, .c (.fn 113 [0]))], [(0, .box [.fn 111 []])], 1⟩) (fun k => k ≤ l.length ∧ eachE lyE 0 l = eachE lyE k (l.drop k)) (fun k => l.length - k) 0 [] ⟨Nat.zero_le _, rfl⟩ ?_ ?_
    · (refine qis ?_ ?_ <;> (repeat' first | exact rfl | (refine qS ?_; constructor)))
    · intro k hk
      refine Fork.dec (fun hlt => ?_) (fun hlt => ?_)
      · have hlt : k < l.length := by omega
        (repeat' first | (refine Owe.same ?_; first | refine Owe.o ?_ | refine Owe.mk ?_ ?_) | (refine Fork.same ?_; (first | refine fkD ?_ ?_ | refine fkN ?_ ?_ | refine fkM ?_ ?_) <;> intro h) | refine MvQ.stay ?_)
        refine Ops.cs rfl rfl (CallS.of fn113 rfl ?_)
        (repeat' first | (refine Owe.same ?_; first | refine Owe.o ?_ | refine Owe.mk ?_ ?_) | (refine Fork.same ?_; (first | refine fkD ?_ ?_ | refine fkN ?_ ?_ | refine fkM ?_ ?_) <;> intro h) | ((first | refine OpsL.same ?_ | refine OpsDL.same ?_); first | refine pK C50 rfl rfl ?_ | refine pK C111 rfl rfl ?_ | refine pK C49 rfl rfl ?_ | refine pK C47 rfl rfl ?_) | refine MvQ.stay ?_)
        all_goals have e := eachE_drop lyE (0, 0, 0) l k hlt
        all_goals first
          | have e1 := lyE_of0 (x := l.getD (k : Int).toNat (0, 0, 0)) h (by rw [Bool.eq_iff_iff]; (try simp only [decide_eq_true_eq, Bool.false_eq_true, false_iff]); omega)
            have e1 : lyE (l.getD k (0, 0, 0)) = 0 := e1
            rw [if_pos e1, ← hk.2] at e
            refine again (k + 1) [] ⟨by omega, e⟩ (by omega) ?_
            (refine qis ?_ ?_ <;> (repeat' first | exact rfl | (refine qS ?_; constructor)))
          | have e1 := lyE_of (x := l.getD (k : Int).toNat (0, 0, 0)) h (by rw [Bool.eq_iff_iff]; (try simp only [decide_eq_true_eq, Bool.false_eq_true, false_iff]); omega)
            rw [← e1] at h
            have h : ¬ lyE (l.getD k (0, 0, 0)) = 0 := h
            rw [if_neg h, ← hk.2] at e
            (refine rqK rfl ?_; (repeat' first | exact rfl | (refine qS ?_; constructor)))
            · rw [e]
            · rw [e]; exact e1.symm
      · (repeat' first | (refine Owe.same ?_; first | refine Owe.o ?_ | refine Owe.mk ?_ ?_) | (refine Fork.same ?_; (first | refine fkD ?_ ?_ | refine fkN ?_ ?_ | refine fkM ?_ ?_) <;> intro h) | refine MvQ.stay ?_)
        have e : eachE lyE 0 l = (0, 0) := by rw [hk.2, List.drop_of_length_le (by omega)]; rfl
        (refine rqK rfl ?_; (repeat' first | exact rfl | (refine qS ?_; constructor))) <;> rw [e]
theorem C61 {x : Dv} : PFD Try.prog 61 [tr x] (vi .i64 x.2.1) := by
  refine pi1 fn61 ?_
  (repeat' first | (refine Owe.same ?_; first | refine Owe.o ?_ | refine Owe.mk ?_ ?_) | (refine Fork.same ?_; (first | refine fkD ?_ ?_ | refine fkN ?_ ?_ | refine fkM ?_ ?_) <;> intro h) | refine MvQ.stay ?_)
  (refine rqK rfl ?_; (repeat' first | exact rfl | (refine qS ?_; constructor)))
theorem C63 {x : Dv} : PFD Try.prog 63 [tr x] (vi .i64 x.2.2) := by
  refine pi1 fn63 ?_
  (repeat' first | (refine Owe.same ?_; first | refine Owe.o ?_ | refine Owe.mk ?_ ?_) | (refine Fork.same ?_; (first | refine fkD ?_ ?_ | refine fkN ?_ ?_ | refine fkM ?_ ?_) <;> intro h) | refine MvQ.stay ?_)
  (refine rqK rfl ?_; (repeat' first | exact rfl | (refine qS ?_; constructor)))
/-- The error of layers, and of a number with a limit. -/
def lsE (l : List Dv) (n m : Int) : Int := fstE [(lysE l).2, unl (0 ≤ n ∧ n ≤ m) 2]
theorem C59 {l : List Dv} {n m : Int} : l.length ≤ 1000000 → PFD Try.prog 59 [.c (trs l), vi .i64 n, vi .i64 m] (vi .i64 (lsE l n m)) := fun hl => by
  refine pi1 fn59 ?_
  (repeat' first | (refine Owe.same ?_; first | refine Owe.o ?_ | refine Owe.mk ?_ ?_) | (refine Fork.same ?_; (first | refine fkD ?_ ?_ | refine fkN ?_ ?_ | refine fkM ?_ ?_) <;> intro h) | ((first | refine OpsL.same ?_ | refine OpsDL.same ?_); first | refine pK (C85 hl) rfl rfl ?_ | refine pK C50 rfl rfl ?_ | refine pK C49 rfl rfl ?_ | refine pK C47 rfl rfl ?_) | refine MvQ.stay ?_)
  (refine rqK rfl ?_; (repeat' first | exact rfl | (refine qS ?_; constructor)))
theorem C114 {a b : Nat} : (a ≤ 4000000000000000000 ∧ b ≤ 4000000000000000000) → PFD Try.prog 114 [vi .i64 a, vi .i64 b] (vi .i64 (Nat.gcd a b)) := fun ⟨ha, hb⟩ => by
  refine pi1 fn114 ?_
  (repeat' first | (refine Owe.same ?_; first | refine Owe.o ?_ | refine Owe.mk ?_ ?_) | (refine Fork.same ?_; (first | refine fkD ?_ ?_ | refine fkN ?_ ?_ | refine fkM ?_ ?_) <;> intro h) | refine MvQ.stay ?_)
  refine Sat.lp0 (fun p : Nat × Nat => [(0, vi .i64 p.1), (1, vi .i64 p.2)]) (fun p => (p.1 ≤ 4000000000000000000 ∧ p.2 ≤ 4000000000000000000) ∧ Nat.gcd p.1 p.2 = Nat.gcd a b) (fun p => p.2) (a, b) ⟨⟨ha, hb⟩, rfl⟩ (by ((first | refine qen ?_ | refine qvs ?_ | refine qeq ?_ | refine qst ?_ | refine qv ?_ | refine qc ?_ | refine qe ?_ | refine qcs ?_ | skip); (repeat' first | exact rfl | (refine qS ?_; constructor)))) ?_
  intro p hp
  obtain ⟨p1, p2⟩ := p
  simp only at hp ⊢
  (repeat' first | (refine Owe.same ?_; first | refine Owe.o ?_ | refine Owe.mk ?_ ?_) | (refine Fork.same ?_; (first | refine fkD ?_ ?_ | refine fkN ?_ ?_ | refine fkM ?_ ?_) <;> intro h) | refine MvQ.stay ?_)
  · have hm : p1 % p2 < p2 := Nat.mod_lt _ (by omega)
    refine again0 (p2, p1 % p2) ⟨⟨hp.1.2, by omega⟩, ?_⟩ hm (by ((first | refine qen ?_ | refine qvs ?_ | refine qeq ?_ | refine qst ?_ | refine qv ?_ | refine qc ?_ | refine qe ?_ | refine qcs ?_ | skip); (repeat' first | exact rfl | (refine qS ?_; constructor))))
    rw [← hp.2, Nat.gcd_comm p1 p2, Nat.gcd_rec p2 p1, Nat.gcd_comm]
  · have h0 : p2 = 0 := by omega
    subst h0
    rw [← hp.2, Nat.gcd_zero_right]
    (refine rqK rfl ?_; (repeat' first | exact rfl | (refine qS ?_; constructor)))
abbrev Qt := Nat × Nat
abbrev qtv (q : Qt) : V := .agg [int (q.1 : Int), int (q.2 : Int)]
def plusQ (q o : Qt) : Qt :=
  ((q.1 * (o.2 / Nat.gcd q.2 o.2) + o.1 * (q.2 / Nat.gcd q.2 o.2)) / Nat.gcd (q.1 * (o.2 / Nat.gcd q.2 o.2) + o.1 * (q.2 / Nat.gcd q.2 o.2)) (q.2 / Nat.gcd q.2 o.2 * o.2),
   (q.2 / Nat.gcd q.2 o.2 * o.2) / Nat.gcd (q.1 * (o.2 / Nat.gcd q.2 o.2) + o.1 * (q.2 / Nat.gcd q.2 o.2)) (q.2 / Nat.gcd q.2 o.2 * o.2))
theorem C62 {q : Qt} : (0 < q.2 ∧ q.1 ≤ 4000000000000000000) → PFD Try.prog 62 [qtv q] (vi .i64 (q.1 / q.2 : Nat)) := fun hq => by
  refine pi1 fn62 ?_
  have e : (q.1 : Int).tdiv q.2 = ((q.1 / q.2 : Nat) : Int) := rfl
  have b : q.1 / q.2 ≤ q.1 := Nat.div_le_self _ _
  generalize q.1 / q.2 = d at *
  have ho : (q.2 : Int) ≠ 0 ∧ R64 ((q.1 : Int).tdiv q.2) := by rw [e]; exact ⟨by omega, ob⟩
  refine Owe.mk ho ?_
  (refine rqK rfl ?_; (repeat' first | exact rfl | (refine qS ?_; constructor)))
  exact e
theorem C64 {q : Qt} : (0 < q.2 ∧ q.1 ≤ 4000000000000000000 ∧ q.2 ≤ 4000000000000000000) → PFD Try.prog 64 [qtv q] (vi .i64 ((q.1 + q.2 - 1) / q.2 : Nat)) := fun hq => by
  refine pi1 fn64 ?_
  have e0 : ((q.1 : Int) + q.2 - 1) = ((q.1 + q.2 - 1 : Nat) : Int) := by omega
  have e : ((q.1 : Int) + q.2 - 1).tdiv q.2 = (((q.1 + q.2 - 1) / q.2 : Nat) : Int) := by rw [e0]; rfl
  have b : (q.1 + q.2 - 1) / q.2 ≤ q.1 + q.2 - 1 := Nat.div_le_self _ _
  generalize (q.1 + q.2 - 1) / q.2 = d at *
  have ho : (q.2 : Int) ≠ 0 ∧ R64 (((q.1 : Int) + q.2 - 1).tdiv q.2) := by rw [e]; exact ⟨by omega, ob⟩
  (repeat' first | (refine Owe.same ?_; first | refine Owe.o ?_ | refine Owe.mk ?_ ?_) | (refine Fork.same ?_; (first | refine fkD ?_ ?_ | refine fkN ?_ ?_ | refine fkM ?_ ?_) <;> intro h) | refine MvQ.stay ?_)
  (refine rqK rfl ?_; (repeat' first | exact rfl | (refine qS ?_; constructor)))
  exact e
theorem C86 {q o : Qt} : ((0 < q.2 ∧ 0 < o.2) ∧ (q.1 * o.2 + o.1 * q.2 ≤ 4000000000000000000 ∧ q.2 * o.2 ≤ 4000000000000000000) ∧ (q.1 ≤ 4000000000000000000 ∧ o.1 ≤ 4000000000000000000) ∧ q.2 ≤ 4000000000000000000 ∧ o.2 ≤ 4000000000000000000) → PFD Try.prog 86 [qtv q, qtv o] (qtv (plusQ q o)) := fun ⟨hp, hb, hd⟩ => by
  refine pi1 fn86 ?_
  have g0 : 0 < Nat.gcd q.2 o.2 := Nat.gcd_pos_of_pos_left _ hp.1
  have d1 : o.2 / Nat.gcd q.2 o.2 ≤ o.2 := Nat.div_le_self _ _
  have d2 : q.2 / Nat.gcd q.2 o.2 ≤ q.2 := Nat.div_le_self _ _
  have d3 : 0 < q.2 / Nat.gcd q.2 o.2 := Nat.div_pos (Nat.le_of_dvd hp.1 (Nat.gcd_dvd_left _ _)) g0
  have m1 : q.1 * (o.2 / Nat.gcd q.2 o.2) ≤ q.1 * o.2 := Nat.mul_le_mul_left _ d1
  have m2 : o.1 * (q.2 / Nat.gcd q.2 o.2) ≤ o.1 * q.2 := Nat.mul_le_mul_left _ d2
  have m3 : q.2 / Nat.gcd q.2 o.2 * o.2 ≤ q.2 * o.2 := Nat.mul_le_mul_right _ d2
  have m4 : 0 < q.2 / Nat.gcd q.2 o.2 * o.2 := Nat.mul_pos d3 hp.2
  have e1 : (o.2 : Int).tdiv (Nat.gcd q.2 o.2 : Nat) = ((o.2 / Nat.gcd q.2 o.2 : Nat) : Int) := rfl
  have e2 : (q.2 : Int).tdiv (Nat.gcd q.2 o.2 : Nat) = ((q.2 / Nat.gcd q.2 o.2 : Nat) : Int) := rfl
  rw [plusQ]
  have c1 := C114 (a := q.2) (b := o.2) ⟨by omega, by omega⟩
  generalize Nat.gcd q.2 o.2 = g at *
  generalize o.2 / g = x at *
  generalize q.2 / g = y at *
  have M1 : 0 ≤ (q.1 : Int) * (o.2 : Int).tdiv g ∧ (q.1 : Int) * (o.2 : Int).tdiv g = ((q.1 * x : Nat) : Int) := by rw [e1]; exact ⟨Int.mul_nonneg (by omega) (by omega), by rw [Int.natCast_mul]⟩
  have M2 : 0 ≤ (o.1 : Int) * (q.2 : Int).tdiv g ∧ (o.1 : Int) * (q.2 : Int).tdiv g = ((o.1 * y : Nat) : Int) := by rw [e2]; exact ⟨Int.mul_nonneg (by omega) (by omega), by rw [Int.natCast_mul]⟩
  have M3 : 0 ≤ (q.2 : Int).tdiv g * (o.2 : Int) ∧ (q.2 : Int).tdiv g * (o.2 : Int) = ((y * o.2 : Nat) : Int) := by rw [e2]; exact ⟨Int.mul_nonneg (by omega) (by omega), by rw [Int.natCast_mul]⟩
  have c2 := C114 (a := q.1 * x + o.1 * y) (b := y * o.2) ⟨by omega, by omega⟩
  have G0 : 0 < Nat.gcd (q.1 * x + o.1 * y) (y * o.2) := Nat.gcd_pos_of_pos_right _ m4
  have eA : (q.1 : Int) * (o.2 : Int).tdiv g + (o.1 : Int) * (q.2 : Int).tdiv g = ((q.1 * x + o.1 * y : Nat) : Int) := by rw [M1.2, M2.2]; omega
  rw [← eA, ← M3.2] at c2
  have D1 : (q.1 * x + o.1 * y) / Nat.gcd (q.1 * x + o.1 * y) (y * o.2) ≤ q.1 * x + o.1 * y := Nat.div_le_self _ _
  have D2 : y * o.2 / Nat.gcd (q.1 * x + o.1 * y) (y * o.2) ≤ y * o.2 := Nat.div_le_self _ _
  have E1 : ((q.1 : Int) * (o.2 : Int).tdiv g + (o.1 : Int) * (q.2 : Int).tdiv g).tdiv (Nat.gcd (q.1 * x + o.1 * y) (y * o.2) : Nat) = (((q.1 * x + o.1 * y) / Nat.gcd (q.1 * x + o.1 * y) (y * o.2) : Nat) : Int) := by rw [eA]; rfl
  have E2 : ((q.2 : Int).tdiv g * (o.2 : Int)).tdiv (Nat.gcd (q.1 * x + o.1 * y) (y * o.2) : Nat) = ((y * o.2 / Nat.gcd (q.1 * x + o.1 * y) (y * o.2) : Nat) : Int) := by rw [M3.2]; rfl
  generalize Nat.gcd (q.1 * x + o.1 * y) (y * o.2) = G at *
  generalize (q.1 * x + o.1 * y) / G = a at *
  generalize y * o.2 / G = b at *
  (repeat' first | (refine Owe.same ?_; first | refine Owe.o ?_ | refine Owe.mk ?_ ?_) | (refine Fork.same ?_; (first | refine fkD ?_ ?_ | refine fkN ?_ ?_ | refine fkM ?_ ?_) <;> intro h) | refine MvQ.stay ?_)
  ((first | refine OpsL.same ?_ | refine OpsDL.same ?_); refine pK c1 rfl rfl ?_)
  (repeat' first | (refine Owe.same ?_; first | refine Owe.o ?_ | refine Owe.mk ?_ ?_) | (refine Fork.same ?_; (first | refine fkD ?_ ?_ | refine fkN ?_ ?_ | refine fkM ?_ ?_) <;> intro h) | refine MvQ.stay ?_)
  ((first | refine OpsL.same ?_ | refine OpsDL.same ?_); refine pK c2 rfl rfl ?_)
  (repeat' first | (refine Owe.same ?_; first | refine Owe.o ?_ | refine Owe.mk ?_ ?_) | (refine Fork.same ?_; (first | refine fkD ?_ ?_ | refine fkN ?_ ?_ | refine fkM ?_ ?_) <;> intro h) | refine MvQ.stay ?_)
  (refine rqK rfl ?_; (repeat' first | exact rfl | (refine qS ?_; constructor)))
  · exact E1
  · exact E2
end Go.Pw

set_option linter.unusedSimpArgs false
namespace Go.Pw
set_option maxRecDepth 2000
open Go Go.Proofs A1 A2 A3 A4
def lyQ (t v : Int) : Qt := (t.toNat, v.toNat)
/-- The depth after a time, with chosen speeds. -/
def deepS (sp : Dv → Int) (T : Nat) : List Dv → Qt → Nat → Qt
  | [], p, _ => p
  | x :: r, p, top => if r = [] ∨ T * (plusQ p (lyQ x.1 (sp x))).2 < (plusQ p (lyQ x.1 (sp x))).1 then (top * p.2 + (T * p.2 - p.1) * (sp x).toNat, p.2)
    else deepS sp T r (plusQ p (lyQ x.1 (sp x))) (top + x.1.toNat)
structure LyOk (l : List Dv) : Prop where
  n : 0 < l.length ∧ l.length ≤ 6
  ok : ∀ i, i < l.length → lyOk (l.getD i (0, 0, 0)) ∧ (l.getD i (0, 0, 0)).2.1 ≤ (l.getD i (0, 0, 0)).2.2
theorem deepS_drop {sp : Dv → Int} {T : Nat} {l : List Dv} {k : Nat} {p : Qt} {top : Nat} (hk : k < l.length) : deepS sp T (l.drop k) p top =
    (fun x : Dv => if k = l.length - 1 ∨ T * (plusQ p (lyQ x.1 (sp x))).2 < (plusQ p (lyQ x.1 (sp x))).1 then (top * p.2 + (T * p.2 - p.1) * (sp x).toNat, p.2)
    else deepS sp T (l.drop (k + 1)) (plusQ p (lyQ x.1 (sp x))) (top + x.1.toNat)) (l.getD k (0, 0, 0)) := by
  have e : l.drop k = l.getD k (0, 0, 0) :: l.drop (k + 1) := by
    rw [List.getD_eq_getElem?_getD, List.getElem?_eq_getElem hk]; exact List.drop_eq_getElem_cons hk
  rw [e]
  have e2 : (l.drop (k + 1) = []) = (k = l.length - 1) := by
    apply propext; rw [List.drop_eq_nil_iff]; omega
  simp only [deepS, e2]
theorem plusQ_pos {q o : Qt} (hq : 0 < q.2) (ho : 0 < o.2) : 0 < (plusQ q o).2 := by
  have g0 : 0 < Nat.gcd q.2 o.2 := Nat.gcd_pos_of_pos_left _ hq
  have h : 0 < q.2 / Nat.gcd q.2 o.2 * o.2 := Nat.mul_pos (Nat.div_pos (Nat.le_of_dvd hq (Nat.gcd_dvd_left _ _)) g0) ho
  exact Nat.div_pos (Nat.le_of_dvd h (Nat.gcd_dvd_right _ _)) (Nat.gcd_pos_of_pos_right _ h)
theorem plusQ_den {q o : Qt} : (plusQ q o).2 ≤ q.2 * o.2 := Nat.le_trans (Nat.div_le_self _ _) (Nat.mul_le_mul_right _ (Nat.div_le_self _ _))
theorem plusQ_num {q o : Qt} : (plusQ q o).1 ≤ q.1 * o.2 + o.1 * q.2 :=
  Nat.le_trans (Nat.div_le_self _ _) (Nat.add_le_add (Nat.mul_le_mul_left _ (Nat.div_le_self _ _)) (Nat.mul_le_mul_left _ (Nat.div_le_self _ _)))
theorem C60 {g : FuncId} {sp : Dv → Int} (hg : ∀ x : Dv, PFD Try.prog g [tr x] (vi .i64 (sp x))) {l : List Dv} {T : Nat} :
    (LyOk l ∧ (∀ i, i < l.length → 1 ≤ sp (l.getD i (0, 0, 0)) ∧ sp (l.getD i (0, 0, 0)) ≤ 100) ∧ T ≤ 100000) → PFD Try.prog 60 [.c (trs l), vi .i64 T, .c (.fn g [])] (qtv (deepS sp T l (0, 1) 0)) := fun ⟨hO, hs, hT⟩ => by
  have hn := hO.n
  obtain ⟨q, hq⟩ : ∃ q, q = deepS sp T l (0, 1) 0 := ⟨_, rfl⟩
  rw [← hq]
  refine pi1 fn60 ?_
  (repeat' first | (refine Owe.same ?_; first | refine Owe.o ?_ | refine Owe.mk ?_ ?_) | (refine Fork.same ?_; (first | refine fkD ?_ ?_ | refine fkN ?_ ?_ | refine fkM ?_ ?_) <;> intro h) | refine MvQ.stay ?_)
  refine Sat.lp (fun s : Nat × Qt × Nat => ⟨[(16, vi .i64 s.1), (15, vi .i64 l.length), (14, .c (trs l)), (0, .c (trs l)), (1, vi .i64 T), (2, .c (.fn g [])), (8, vi .i64 s.2.2), (6, .c (.bp 0 0)), (7, .c (.bp 1 0))], [(1, .box [int s.2.1.1, int s.2.1.2]), (0, .box [int 0, int 0])], 2⟩)
    (fun s => s.1 ≤ l.length ∧ q = deepS sp T (l.drop s.1) s.2.1 s.2.2 ∧ (0 < s.2.1.2 ∧ s.2.1.2 ≤ 100 ^ s.1) ∧ s.2.1.1 ≤ T * s.2.1.2 ∧ s.2.2 ≤ 10000 * s.1) (fun s => l.length - s.1) (0, (0, 1), 0) [0, 1] ⟨Nat.zero_le _, hq, ⟨by decide, by decide⟩, by simp, by simp⟩ ?_ ?_
  · (refine qis ?_ ?_ <;> (repeat' first | exact rfl | (refine qS ?_; constructor)))
  · intro ⟨k, p, top⟩ hk
    simp only at hk ⊢
    refine Fork.dec (fun hlt => ?_) (fun hlt => ?_)
    · have hlt : k < l.length := by omega
      have hx := (hO.ok k hlt).1
      have hv := hs k hlt
      have e := deepS_drop (sp := sp) (T := T) (p := p) (top := top) hlt
      obtain ⟨p1, p2⟩ := p
      simp only at hk e
      have b0 : p2 ≤ 10000000000 := Nat.le_trans hk.2.2.1.2 (Nat.le_trans (Nat.pow_le_pow_right (by decide) (show k ≤ 5 by omega)) (by decide))
      have b1 : T * p2 ≤ 100000 * 10000000000 := Nat.mul_le_mul hT b0
      have c86 : PFD Try.prog 86 [.agg [int (p1 : Int), int (p2 : Int)], .agg [int (l.getD k (0, 0, 0)).1, int (sp (l.getD k (0, 0, 0)))]] (qtv (plusQ (p1, p2) (lyQ (l.getD k (0, 0, 0)).1 (sp (l.getD k (0, 0, 0)))))) := by
        have h1 := hx.1
        generalize (l.getD k (0, 0, 0)).1 = a at *
        generalize sp (l.getD k (0, 0, 0)) = v at *
        obtain ⟨a, rfl⟩ : ∃ n : Nat, a = n := ⟨a.toNat, by omega⟩
        obtain ⟨v, rfl⟩ : ∃ n : Nat, v = n := ⟨v.toNat, by omega⟩
        have m1 : p1 * v ≤ 1000000000000000 * 100 := Nat.mul_le_mul (by omega) (by omega)
        have m2 : a * p2 ≤ 10000 * 10000000000 := Nat.mul_le_mul (by omega) b0
        have m3 : p2 * v ≤ 10000000000 * 100 := Nat.mul_le_mul b0 (by omega)
        exact C86 (q := (p1, p2)) (o := (a, v)) ⟨⟨hk.2.2.1.1, by simp only; omega⟩, ⟨by simp only; omega, by simp only; omega⟩, ⟨by simp only; omega, by simp only; omega⟩, by simp only; omega, by simp only; omega⟩
      have r1 := plusQ_pos (q := (p1, p2)) (o := lyQ (l.getD k (0, 0, 0)).1 (sp (l.getD k (0, 0, 0)))) hk.2.2.1.1 (by simp only [lyQ]; omega)
      have r2 := plusQ_den (q := (p1, p2)) (o := lyQ (l.getD k (0, 0, 0)).1 (sp (l.getD k (0, 0, 0))))
      have r3 : p2 * (lyQ (l.getD k (0, 0, 0)).1 (sp (l.getD k (0, 0, 0)))).2 ≤ p2 * 100 := Nat.mul_le_mul_left _ (by simp only [lyQ]; omega)
      have r4 : p2 * 100 ≤ 100 ^ (k + 1) := by rw [Nat.pow_succ]; exact Nat.mul_le_mul_right _ hk.2.2.1.2
      obtain ⟨⟨t1, t2⟩, ht⟩ : ∃ t, plusQ (p1, p2) (lyQ (l.getD k (0, 0, 0)).1 (sp (l.getD k (0, 0, 0)))) = t := ⟨_, rfl⟩
      rw [ht] at c86 r1 r2 e
      simp only at r1 r2 r3 e
      have b2 : T * t2 ≤ 100000 * 1000000000000 := Nat.mul_le_mul hT (by omega)
      have b3 : top * p2 ≤ 60000 * 10000000000 := Nat.mul_le_mul (by omega) b0
      have b4 : 0 ≤ ((T : Int) * p2 - p1) * sp (l.getD k (0, 0, 0)) ∧ ((T : Int) * p2 - p1) * sp (l.getD k (0, 0, 0)) ≤ 1000000000000000 * 100 := by
        have hd : 0 ≤ (T : Int) * p2 - p1 ∧ (T : Int) * p2 - p1 ≤ 1000000000000000 := by omega
        exact ⟨Int.mul_nonneg hd.1 (by omega), Int.mul_le_mul hd.2 hv.2 (by omega) (by omega)⟩
      have b5 : ((T : Int) * p2 - p1) * sp (l.getD k (0, 0, 0)) = (((T * p2 - p1) * (sp (l.getD k (0, 0, 0))).toNat : Nat) : Int) := by
        rw [Int.natCast_mul, Int.toNat_of_nonneg (by omega)]; congr 1; omega
      have b6 : (top : Int) * p2 + ((T : Int) * p2 - p1) * sp (l.getD k (0, 0, 0)) = ((top * p2 + (T * p2 - p1) * (sp (l.getD k (0, 0, 0))).toNat : Nat) : Int) := by rw [b5]; omega
      have h1 := hx.1
      (repeat' first | (refine Owe.same ?_; first | refine Owe.o ?_ | refine Owe.mk ?_ ?_) | (refine Fork.same ?_; (first | refine fkD ?_ ?_ | refine fkN ?_ ?_ | refine fkM ?_ ?_) <;> intro h) | ((first | refine OpsL.same ?_ | refine OpsDL.same ?_); first | refine pK (hg _) rfl rfl ?_ | refine pK c86 rfl rfl ?_) | refine MvQ.stay ?_)
      · rw [if_pos (.inl (by omega)), ← hk.2.1] at e
        subst e
        (refine rqK rfl ?_; (repeat' first | exact rfl | (refine qS ?_; constructor)))
        exact b6
      · have h : (T : Int) * t2 < t1 := h
        have h : T * t2 < t1 := by exact_mod_cast h
        rw [if_pos (.inr h), ← hk.2.1] at e
        subst e
        (refine rqK rfl ?_; (repeat' first | exact rfl | (refine qS ?_; constructor)))
        exact b6
      · rename_i hkl
        have h : ¬ (T : Int) * t2 < t1 := h
        have h : ¬ T * t2 < t1 := fun hh => h (by exact_mod_cast hh)
        rw [if_neg (by rintro (h2 | h2) <;> omega), ← hk.2.1] at e
        refine again (k + 1, (t1, t2), top + (l.getD k (0, 0, 0)).1.toNat) [0, 1] ⟨by omega, e, ⟨by simp only; omega, by simp only; omega⟩, by simp only; omega, by simp only; omega⟩ (by omega) ?_
        (refine qis ?_ ?_ <;> (repeat' first | exact rfl | (refine qS ?_; constructor)))
        show (top : Int) + (l.getD k (0, 0, 0)).1 = ((top + (l.getD k (0, 0, 0)).1.toNat : Nat) : Int)
        omega
    · (repeat' first | (refine Owe.same ?_; first | refine Owe.o ?_ | refine Owe.mk ?_ ?_) | (refine Fork.same ?_; (first | refine fkD ?_ ?_ | refine fkN ?_ ?_ | refine fkM ?_ ?_) <;> intro h) | refine MvQ.stay ?_)
      have e : q = p := by rw [hk.2.1, List.drop_of_length_le (by omega)]; rfl
      subst e
      (refine rqK rfl ?_; (repeat' first | exact rfl | (refine qS ?_; constructor)))
/-- The time to a depth, with chosen speeds. -/
def latePart (last : Prop) [Decidable last] (t d : Int) : Int := min (if last then d else t) d
def lateS (sp : Dv → Int) : List Dv → Int → Qt → Qt
  | [], _, q => q
  | x :: r, d, q => lateS sp r (d - latePart (r = []) x.1 d) (plusQ q (lyQ (latePart (r = []) x.1 d) (sp x)))
theorem lateS_drop {sp : Dv → Int} {l : List Dv} {k : Nat} {d : Int} {q : Qt} (hk : k < l.length) : lateS sp (l.drop k) d q =
    (fun x : Dv => lateS sp (l.drop (k + 1)) (d - latePart (k = l.length - 1) x.1 d) (plusQ q (lyQ (latePart (k = l.length - 1) x.1 d) (sp x)))) (l.getD k (0, 0, 0)) := by
  have e : l.drop k = l.getD k (0, 0, 0) :: l.drop (k + 1) := by
    rw [List.getD_eq_getElem?_getD, List.getElem?_eq_getElem hk]; exact List.drop_eq_getElem_cons hk
  rw [e]
  have e2 : (l.drop (k + 1) = []) = (k = l.length - 1) := by
    apply propext; rw [List.drop_eq_nil_iff]; omega
  simp only [lateS, latePart, e2]
theorem C65 {g : FuncId} {sp : Dv → Int} (hg : ∀ x : Dv, PFD Try.prog g [tr x] (vi .i64 (sp x))) {l : List Dv} {D : Int} :
    (LyOk l ∧ (∀ i, i < l.length → 1 ≤ sp (l.getD i (0, 0, 0)) ∧ sp (l.getD i (0, 0, 0)) ≤ 100) ∧ 0 ≤ D ∧ D ≤ 100000) → PFD Try.prog 65 [.c (trs l), vi .i64 D, .c (.fn g [])] (qtv (lateS sp l D (0, 1))) := fun ⟨hO, hs, hD⟩ => by
  have hn := hO.n
  obtain ⟨q, hq⟩ : ∃ q, q = lateS sp l D (0, 1) := ⟨_, rfl⟩
  rw [← hq]
  refine pi1 fn65 ?_
  (repeat' first | (refine Owe.same ?_; first | refine Owe.o ?_ | refine Owe.mk ?_ ?_) | (refine Fork.same ?_; (first | refine fkD ?_ ?_ | refine fkN ?_ ?_ | refine fkM ?_ ?_) <;> intro h) | refine MvQ.stay ?_)
  refine Sat.lp (fun s : Nat × Qt × Int => ⟨[(14, vi .i64 s.1), (13, vi .i64 l.length), (12, .c (trs l)), (0, .c (trs l)), (1, vi .i64 s.2.2), (2, .c (.fn g [])), (6, .c (.bp 0 0)), (7, .c (.bp 1 0))], [(1, .box [int s.2.1.1, int s.2.1.2]), (0, .box [int 0, int 0])], 2⟩)
    (fun s => s.1 ≤ l.length ∧ q = lateS sp (l.drop s.1) s.2.2 s.2.1 ∧ (0 < s.2.1.2 ∧ s.2.1.2 ≤ 100 ^ s.1) ∧ s.2.1.1 ≤ 100000 * 101 ^ s.1 ∧ 0 ≤ s.2.2 ∧ s.2.2 ≤ 100000) (fun s => l.length - s.1) (0, (0, 1), D) [0, 1] ⟨Nat.zero_le _, hq, ⟨by simp, by simp⟩, by simp, hD⟩ ?_ ?_
  · (refine qis ?_ ?_ <;> (repeat' first | exact rfl | (refine qS ?_; constructor)))
  · intro ⟨k, p, d⟩ hk
    simp only at hk ⊢
    refine Fork.dec (fun hlt => ?_) (fun hlt => ?_)
    · have hlt : k < l.length := by omega
      have hx := (hO.ok k hlt).1
      have hv := hs k hlt
      have e := lateS_drop (sp := sp) (d := d) (q := p) hlt
      obtain ⟨p1, p2⟩ := p
      simp only at hk e
      have b0 : p2 ≤ 10000000000 := Nat.le_trans hk.2.2.1.2 (Nat.le_trans (Nat.pow_le_pow_right (by decide) (show k ≤ 5 by omega)) (by decide))
      have b1 : p1 ≤ 100000 * 10510100501 := Nat.le_trans hk.2.2.2.1 (Nat.mul_le_mul_left _ (Nat.le_trans (Nat.pow_le_pow_right (by decide) (show k ≤ 5 by omega)) (by decide)))
      have b2 : 100 ^ k ≤ 101 ^ k := Nat.pow_le_pow_left (by decide) k
      have h1 := hx.1
      have c86 : ∀ {a : Int}, (0 ≤ a ∧ a ≤ 100000) → PFD Try.prog 86 [.agg [int (p1 : Int), int (p2 : Int)], .agg [int a, int (sp (l.getD k (0, 0, 0)))]] (qtv (plusQ (p1, p2) (lyQ a (sp (l.getD k (0, 0, 0)))))) := by
        intro a ha
        generalize sp (l.getD k (0, 0, 0)) = v at *
        obtain ⟨a, rfl⟩ : ∃ n : Nat, a = n := ⟨a.toNat, by omega⟩
        obtain ⟨v, rfl⟩ : ∃ n : Nat, v = n := ⟨v.toNat, by omega⟩
        have m1 : p1 * v ≤ 1051010050100000 * 100 := Nat.mul_le_mul (by omega) (by omega)
        have m2 : a * p2 ≤ 100000 * 10000000000 := Nat.mul_le_mul (by omega) b0
        have m3 : p2 * v ≤ 10000000000 * 100 := Nat.mul_le_mul b0 (by omega)
        exact C86 (q := (p1, p2)) (o := (a, v)) ⟨⟨hk.2.2.1.1, by simp only; omega⟩, ⟨by simp only; omega, by simp only; omega⟩, ⟨by simp only; omega, by simp only; omega⟩, by simp only; omega, by simp only; omega⟩
      have go : ∀ a : Int, 0 ≤ a → a ≤ d → 0 < (plusQ (p1, p2) (lyQ a (sp (l.getD k (0, 0, 0))))).2 ∧ (plusQ (p1, p2) (lyQ a (sp (l.getD k (0, 0, 0))))).2 ≤ 100 ^ (k + 1) ∧ (plusQ (p1, p2) (lyQ a (sp (l.getD k (0, 0, 0))))).1 ≤ 100000 * 101 ^ (k + 1) := by
        intro a ha0 ha
        have r1 := plusQ_pos (q := (p1, p2)) (o := lyQ a (sp (l.getD k (0, 0, 0)))) hk.2.2.1.1 (by simp only [lyQ]; omega)
        have r2 := plusQ_den (q := (p1, p2)) (o := lyQ a (sp (l.getD k (0, 0, 0))))
        have r3 : p2 * (lyQ a (sp (l.getD k (0, 0, 0)))).2 ≤ p2 * 100 := Nat.mul_le_mul_left _ (by simp only [lyQ]; omega)
        have r4 : p2 * 100 ≤ 100 ^ (k + 1) := by rw [Nat.pow_succ]; exact Nat.mul_le_mul_right _ hk.2.2.1.2
        have r5 := plusQ_num (q := (p1, p2)) (o := lyQ a (sp (l.getD k (0, 0, 0))))
        have r6 : p1 * (lyQ a (sp (l.getD k (0, 0, 0)))).2 ≤ p1 * 100 := Nat.mul_le_mul_left _ (by simp only [lyQ]; omega)
        have r7 : (lyQ a (sp (l.getD k (0, 0, 0)))).1 * p2 ≤ 100000 * p2 := Nat.mul_le_mul_right _ (by simp only [lyQ]; omega)
        refine ⟨r1, Nat.le_trans r2 (Nat.le_trans r3 r4), ?_⟩
        simp only at r5
        rw [Nat.pow_succ]
        omega
      (repeat' first | (refine Owe.same ?_; first | refine Owe.o ?_ | refine Owe.mk ?_ ?_) | (refine Fork.same ?_; (first | refine fkD ?_ ?_ | refine fkN ?_ ?_ | refine fkM ?_ ?_) <;> intro h) | ((first | refine OpsL.same ?_ | refine OpsDL.same ?_); first | refine pK (hg _) rfl rfl ?_ | refine pK c86 rfl rfl ?_) | refine MvQ.stay ?_)
      · have ep : latePart (k = l.length - 1) (l.getD k (0, 0, 0)).1 d = min d d := by rw [latePart, if_pos (by omega)]
        simp only [ep, ← hk.2.1] at e
        have g := go (min d d) (by omega) (by omega)
        refine again (k + 1, plusQ (p1, p2) (lyQ (min d d) (sp (l.getD k (0, 0, 0)))), d - min d d) [0, 1] ⟨by omega, e, ⟨g.1, g.2.1⟩, g.2.2, by simp only; omega, by simp only; omega⟩ (by omega) ?_
        (refine qis ?_ ?_ <;> (repeat' first | exact rfl | (refine qS ?_; constructor)))
      · have ep : latePart (k = l.length - 1) (l.getD k (0, 0, 0)).1 d = min (l.getD k (0, 0, 0)).1 d := by rw [latePart, if_neg (by omega)]
        simp only [ep, ← hk.2.1] at e
        have g := go (min (l.getD k (0, 0, 0)).1 d) (by omega) (by omega)
        refine again (k + 1, plusQ (p1, p2) (lyQ (min (l.getD k (0, 0, 0)).1 d) (sp (l.getD k (0, 0, 0)))), d - min (l.getD k (0, 0, 0)).1 d) [0, 1] ⟨by omega, e, ⟨g.1, g.2.1⟩, g.2.2, by simp only; omega, by simp only; omega⟩ (by omega) ?_
        (refine qis ?_ ?_ <;> (repeat' first | exact rfl | (refine qS ?_; constructor)))
    · (repeat' first | (refine Owe.same ?_; first | refine Owe.o ?_ | refine Owe.mk ?_ ?_) | (refine Fork.same ?_; (first | refine fkD ?_ ?_ | refine fkN ?_ ?_ | refine fkM ?_ ?_) <;> intro h) | refine MvQ.stay ?_)
      have e : q = p := by rw [hk.2.1, List.drop_of_length_le (by omega)]; rfl
      subst e
      (refine rqK rfl ?_; (repeat' first | exact rfl | (refine qS ?_; constructor)))
def lo (x : Dv) : Int := x.2.1
def hi (x : Dv) : Int := x.2.2
/-- The range of depths after a time, and that of times to a depth. -/
def dpS (l : List Dv) (T : Int) : Pr × Int := if lsE l T 100000 = 0 then ((((deepS lo T.toNat l (0, 1) 0).1 / (deepS lo T.toNat l (0, 1) 0).2 : Nat), (((deepS hi T.toNat l (0, 1) 0).1 + (deepS hi T.toNat l (0, 1) 0).2 - 1) / (deepS hi T.toNat l (0, 1) 0).2 : Nat)), 0) else ((0, 0), lsE l T 100000)
def tmS (l : List Dv) (D : Int) : Pr × Int := if lsE l D 100000 = 0 then ((((lateS hi l D (0, 1)).1 / (lateS hi l D (0, 1)).2 : Nat), (((lateS lo l D (0, 1)).1 + (lateS lo l D (0, 1)).2 - 1) / (lateS lo l D (0, 1)).2 : Nat)), 0) else ((0, 0), lsE l D 100000)
theorem lyE_ok {x : Dv} : lyE x = 0 ↔ lyOk x ∧ x.2.1 ≤ x.2.2 := by
  rw [lyE, fst2, unl0 (by decide), unl0 (by decide)]
theorem lysE_ok {l : List Dv} (h : (lysE l).2 = 0) : LyOk l := by
  rw [lysE] at h
  split at h
  · rename_i h0
    rw [cntE, fst2, unl0 (by decide), unl0 (by decide)] at h0
    refine ⟨by omega, fun i hi => lyE_ok.1 ?_⟩
    exact eachE_ok.1 h _ (by rw [List.getD_eq_getElem?_getD, List.getElem?_eq_getElem hi]; exact List.getElem_mem hi)
  · rename_i h0; exact absurd h h0
theorem deepS_bd {sp : Dv → Int} {T : Nat} (hT : T ≤ 100000) : ∀ (l : List Dv) (k : Nat) (p : Qt) (top : Nat), (∀ x ∈ l, (1 ≤ x.1 ∧ x.1 ≤ 10000) ∧ 1 ≤ sp x ∧ sp x ≤ 100) → k + l.length ≤ 6 → 0 < p.2 → p.2 ≤ 100 ^ k → p.1 ≤ T * p.2 → top ≤ 10000 * k →
    0 < (deepS sp T l p top).2 ∧ (deepS sp T l p top).2 ≤ 1000000000000 ∧ (deepS sp T l p top).1 ≤ 200000000000000000
  | [], k, p, top, _, hk, h0, h1, h2, h3 => by
    simp only [List.length_nil] at hk
    have b0 : p.2 ≤ 1000000000000 := Nat.le_trans h1 (Nat.le_trans (Nat.pow_le_pow_right (by decide) (show k ≤ 6 by omega)) (by decide))
    have b1 : T * p.2 ≤ 100000 * 1000000000000 := Nat.mul_le_mul hT b0
    simp only [deepS]; omega
  | x :: r, k, p, top, ho, hk, h0, h1, h2, h3 => by
    simp only [List.length_cons] at hk
    have hx := ho x (.head _)
    have b0 : p.2 ≤ 10000000000 := Nat.le_trans h1 (Nat.le_trans (Nat.pow_le_pow_right (by decide) (show k ≤ 5 by omega)) (by decide))
    have b1 : T * p.2 ≤ 100000 * 10000000000 := Nat.mul_le_mul hT b0
    rw [deepS]
    split
    · have b3 : top * p.2 ≤ 60000 * 10000000000 := Nat.mul_le_mul (by omega) b0
      have b4 : (T * p.2 - p.1) * (sp x).toNat ≤ 1000000000000000 * 100 := Nat.mul_le_mul (by omega) (by omega)
      refine ⟨h0, ?_, ?_⟩ <;> simp only <;> omega
    · rename_i hn
      have r1 := plusQ_pos (q := p) (o := lyQ x.1 (sp x)) h0 (by simp only [lyQ]; omega)
      have r2 := plusQ_den (q := p) (o := lyQ x.1 (sp x))
      have r3 : p.2 * (lyQ x.1 (sp x)).2 ≤ p.2 * 100 := Nat.mul_le_mul_left _ (by simp only [lyQ]; omega)
      have r4 : p.2 * 100 ≤ 100 ^ (k + 1) := by rw [Nat.pow_succ]; exact Nat.mul_le_mul_right _ h1
      exact deepS_bd hT r (k + 1) _ _ (fun y hy => ho y (.tail _ hy)) (by omega) r1 (by omega) (Nat.le_of_not_lt fun h => hn (.inr h)) (by omega)
theorem lateS_bd {sp : Dv → Int} : ∀ (l : List Dv) (k : Nat) (d : Int) (p : Qt), (∀ x ∈ l, (1 ≤ x.1 ∧ x.1 ≤ 10000) ∧ 1 ≤ sp x ∧ sp x ≤ 100) → k + l.length ≤ 6 → 0 < p.2 → p.2 ≤ 100 ^ k → p.1 ≤ 100000 * 101 ^ k → 0 ≤ d → d ≤ 100000 →
    0 < (lateS sp l d p).2 ∧ (lateS sp l d p).2 ≤ 1000000000000 ∧ (lateS sp l d p).1 ≤ 200000000000000000
  | [], k, d, p, _, hk, h0, h1, h2, h3, h4 => by
    simp only [List.length_nil] at hk
    have b0 : p.2 ≤ 1000000000000 := Nat.le_trans h1 (Nat.le_trans (Nat.pow_le_pow_right (by decide) (show k ≤ 6 by omega)) (by decide))
    have b1 : p.1 ≤ 100000 * 1061520150601 := Nat.le_trans h2 (Nat.mul_le_mul_left _ (Nat.le_trans (Nat.pow_le_pow_right (by decide) (show k ≤ 6 by omega)) (by decide)))
    simp only [lateS]; omega
  | x :: r, k, d, p, ho, hk, h0, h1, h2, h3, h4 => by
    simp only [List.length_cons] at hk
    have hx := ho x (.head _)
    have b2 : 100 ^ k ≤ 101 ^ k := Nat.pow_le_pow_left (by decide) k
    have ha : 0 ≤ latePart (r = []) x.1 d ∧ latePart (r = []) x.1 d ≤ d := by rw [latePart]; split <;> omega
    rw [lateS]
    generalize latePart (r = []) x.1 d = a at *
    have r1 := plusQ_pos (q := p) (o := lyQ a (sp x)) h0 (by simp only [lyQ]; omega)
    have r2 := plusQ_den (q := p) (o := lyQ a (sp x))
    have r3 : p.2 * (lyQ a (sp x)).2 ≤ p.2 * 100 := Nat.mul_le_mul_left _ (by simp only [lyQ]; omega)
    have r4 : p.2 * 100 ≤ 100 ^ (k + 1) := by rw [Nat.pow_succ]; exact Nat.mul_le_mul_right _ h1
    have r5 := plusQ_num (q := p) (o := lyQ a (sp x))
    have r6 : p.1 * (lyQ a (sp x)).2 ≤ p.1 * 100 := Nat.mul_le_mul_left _ (by simp only [lyQ]; omega)
    have r7 : (lyQ a (sp x)).1 * p.2 ≤ 100000 * p.2 := Nat.mul_le_mul_right _ (by simp only [lyQ]; omega)
    exact lateS_bd r (k + 1) _ _ (fun y hy => ho y (.tail _ hy)) (by omega) r1 (by omega) (by rw [Nat.pow_succ]; omega) (by omega) (by omega)
theorem LyOk.mem {l : List Dv} (hO : LyOk l) {x : Dv} (hx : x ∈ l) : lyOk x ∧ x.2.1 ≤ x.2.2 := by
  obtain ⟨i, hi, rfl⟩ := List.mem_iff_getElem.1 hx
  have := hO.ok i hi
  rwa [List.getD_eq_getElem?_getD, List.getElem?_eq_getElem hi] at this
theorem C27 {l : List Dv} {T : Int} : l.length ≤ 1000000 → PFD Try.prog 27 [.c (trs l), vi .i64 T] (.tup [pr (dpS l T).1, vi .i64 (dpS l T).2]) := fun hl => by
  by_cases h0 : lsE l T 100000 = 0
  · rw [dpS, if_pos h0]
    have hh := fst2.1 (show fstE [(lysE l).2, unl (0 ≤ T ∧ T ≤ 100000) 2] = 0 from h0)
    have hO := lysE_ok hh.1
    have hT := (unl0 (by decide)).1 hh.2
    have hn := hO.n
    have c1 := C60 (g := 61) (sp := lo) (fun x => C61) (l := l) (T := T.toNat) ⟨hO, fun i hi => by have := hO.ok i hi; simp only [lo]; omega, by omega⟩
    have c2 := C60 (g := 63) (sp := hi) (fun x => C63) (l := l) (T := T.toNat) ⟨hO, fun i hi => by have := hO.ok i hi; simp only [Pw.hi]; omega, by omega⟩
    have d1 := deepS_bd (sp := lo) (T := T.toNat) (by omega) l 0 (0, 1) 0 (fun x hx => by have := hO.mem hx; simp only [lo]; omega) (by omega) (by decide) (by decide) (by simp) (by simp)
    have d2 := deepS_bd (sp := hi) (T := T.toNat) (by omega) l 0 (0, 1) 0 (fun x hx => by have := hO.mem hx; simp only [hi]; omega) (by omega) (by decide) (by decide) (by simp) (by simp)
    rw [show ((T.toNat : Nat) : Int) = T by omega] at c1 c2
    generalize deepS lo T.toNat l (0, 1) 0 = p at *
    generalize deepS hi T.toNat l (0, 1) 0 = q at *
    refine pi2 fn27 ?_
    (repeat' first | (refine Owe.same ?_; first | refine Owe.o ?_ | refine Owe.mk ?_ ?_) | (refine Fork.same ?_; (first | refine fkD ?_ ?_ | refine fkN ?_ ?_ | refine fkM ?_ ?_) <;> intro h) | ((first | refine OpsL.same ?_ | refine OpsDL.same ?_); first | refine oK (C59 hl) rfl rfl rfl ?_ | refine oK c1 rfl rfl rfl ?_ | refine oK c2 rfl rfl rfl ?_ | refine oK C62 rfl rfl rfl ?_ | refine oK C64 rfl rfl rfl ?_) | refine MvQ.stay ?_)
    · exact absurd h0 h
    · (refine rqK rfl ?_; (repeat' first | exact rfl | (refine qS ?_; constructor)))
  · rw [dpS, if_neg h0]
    refine pi2 fn27 ?_
    (repeat' first | (refine Owe.same ?_; first | refine Owe.o ?_ | refine Owe.mk ?_ ?_) | (refine Fork.same ?_; (first | refine fkD ?_ ?_ | refine fkN ?_ ?_ | refine fkM ?_ ?_) <;> intro h) | ((first | refine OpsL.same ?_ | refine OpsDL.same ?_); first | refine pK (C59 hl) rfl rfl ?_) | refine MvQ.stay ?_)
    · (refine rqK rfl ?_; (repeat' first | exact rfl | (refine qS ?_; constructor)))
    · exact absurd h h0
theorem C28 {l : List Dv} {D : Int} : l.length ≤ 1000000 → PFD Try.prog 28 [.c (trs l), vi .i64 D] (.tup [pr (tmS l D).1, vi .i64 (tmS l D).2]) := fun hl => by
  by_cases h0 : lsE l D 100000 = 0
  · rw [tmS, if_pos h0]
    have hh := fst2.1 (show fstE [(lysE l).2, unl (0 ≤ D ∧ D ≤ 100000) 2] = 0 from h0)
    have hO := lysE_ok hh.1
    have hT := (unl0 (by decide)).1 hh.2
    have hn := hO.n
    have c1 := C65 (g := 61) (sp := lo) (fun x => C61) (l := l) (D := D) ⟨hO, fun i hi => by have := hO.ok i hi; simp only [lo]; omega, by omega⟩
    have c2 := C65 (g := 63) (sp := hi) (fun x => C63) (l := l) (D := D) ⟨hO, fun i hi => by have := hO.ok i hi; simp only [Pw.hi]; omega, by omega⟩
    have d1 := lateS_bd (sp := lo) l 0 D (0, 1) (fun x hx => by have := hO.mem hx; simp only [lo]; omega) (by omega) (by decide) (by decide) (by simp) hT.1 hT.2
    have d2 := lateS_bd (sp := hi) l 0 D (0, 1) (fun x hx => by have := hO.mem hx; simp only [hi]; omega) (by omega) (by decide) (by decide) (by simp) hT.1 hT.2
    generalize lateS lo l D (0, 1) = p at *
    generalize lateS hi l D (0, 1) = q at *
    refine pi2 fn28 ?_
    (repeat' first | (refine Owe.same ?_; first | refine Owe.o ?_ | refine Owe.mk ?_ ?_) | (refine Fork.same ?_; (first | refine fkD ?_ ?_ | refine fkN ?_ ?_ | refine fkM ?_ ?_) <;> intro h) | ((first | refine OpsL.same ?_ | refine OpsDL.same ?_); first | refine oK (C59 hl) rfl rfl rfl ?_ | refine oK c1 rfl rfl rfl ?_ | refine oK c2 rfl rfl rfl ?_ | refine oK C62 rfl rfl rfl ?_ | refine oK C64 rfl rfl rfl ?_) | refine MvQ.stay ?_)
    · exact absurd h0 h
    · (refine rqK rfl ?_; (repeat' first | exact rfl | (refine qS ?_; constructor)))
  · rw [tmS, if_neg h0]
    refine pi2 fn28 ?_
    (repeat' first | (refine Owe.same ?_; first | refine Owe.o ?_ | refine Owe.mk ?_ ?_) | (refine Fork.same ?_; (first | refine fkD ?_ ?_ | refine fkN ?_ ?_ | refine fkM ?_ ?_) <;> intro h) | ((first | refine OpsL.same ?_ | refine OpsDL.same ?_); first | refine pK (C59 hl) rfl rfl ?_) | refine MvQ.stay ?_)
    · (refine rqK rfl ?_; (repeat' first | exact rfl | (refine qS ?_; constructor)))
    · exact absurd h h0
end Go.Pw

set_option linter.unusedSimpArgs false
namespace Go.Pw
/-- What a function says along a range of numbers, one after the other. -/
def catR {α : Type} (f : Int → List α) (a : Int) : Nat → List α
  | 0 => []
  | k + 1 => catR f a k ++ f (a + k)
section
variable {α β : Type} {f g : Int → List α}
theorem catR_len {a : Int} {c k : Nat} (h : ∀ x, (f x).length ≤ c) : (catR f a k).length ≤ k * c := by
  induction k with
  | zero => exact Nat.zero_le _
  | succ k ih => rw [catR, List.length_append, Nat.succ_mul]; have := h (a + k); omega
theorem catR_mem {a : Int} {k : Nat} {x : α} : x ∈ catR f a k ↔ ∃ i : Nat, i < k ∧ x ∈ f (a + i) := by
  induction k with
  | zero => simp [catR]
  | succ k ih =>
    rw [catR, List.mem_append, ih]
    constructor
    · rintro (⟨i, hi, h⟩ | h)
      · exact ⟨i, by omega, h⟩
      · exact ⟨k, by omega, h⟩
    · rintro ⟨i, hi, h⟩
      by_cases hk : i = k
      · subst hk; exact .inr h
      · exact .inl ⟨i, by omega, h⟩
end
abbrev Cel := Int × Int
abbrev Ry := Cel × Cel × Bool
def Ry.dx (r : Ry) : Int := r.2.1.1 - r.1.1
def Ry.dy (r : Ry) : Int := r.2.1.2 - r.1.2
def Ry.mid (r : Ry) (x y : Int) : Int := r.dx * 2 * (y - r.1.2) - r.dy * 2 * (x - r.1.1)
def sz (n : Int) : Int := max n (-n)
/-- In the rectangle of both ends a ray crosses this cell. -/
def crs (r : Ry) (x y : Int) : Bool := decide (sz (r.mid x y) < sz r.dx + sz r.dy ∨ (r.dx = 0 ∧ r.dy = 0))
def crC (r : Ry) (y x : Int) : List Cel := if crs r x y then [(x, y)] else []
def Ry.x0 (r : Ry) : Int := min r.1.1 r.2.1.1
def Ry.y0 (r : Ry) : Int := min r.1.2 r.2.1.2
def Ry.wn (r : Ry) : Nat := (sz r.dx).toNat + 1
def Ry.hn (r : Ry) : Nat := (sz r.dy).toNat + 1
def crR (r : Ry) (y : Int) : List Cel := catR (crC r y) r.x0 r.wn
/-- The cells that a ray crosses. -/
def crS (r : Ry) : List Cel := catR (crR r) r.y0 r.hn
def inG (c : Cel) (w h : Int) : Prop := (0 ≤ c.1 ∧ c.1 ≤ w - 1) ∧ 0 ≤ c.2 ∧ c.2 ≤ h - 1
instance (c : Cel) (w h : Int) : Decidable (inG c w h) := by unfold inG; infer_instance
def ryOk (r : Ry) (w h : Int) : Prop := inG r.1 w h ∧ inG r.2.1 w h
instance (r : Ry) (w h : Int) : Decidable (ryOk r w h) := by unfold ryOk; infer_instance
theorem crC_len (r : Ry) (y x : Int) : (crC r y x).length ≤ 1 := by rw [crC]; split <;> simp
theorem crR_len {r : Ry} {y : Int} : (crR r y).length ≤ r.wn := by have := catR_len (a := r.x0) (k := r.wn) (crC_len r y); rw [crR]; omega
theorem wn_le {r : Ry} {w h : Int} (ho : ryOk r w h) : (r.wn : Int) ≤ w := by
  have h1 := ho.1.1; have h2 := ho.2.1
  rw [Ry.wn, Ry.dx, sz]; omega
theorem hn_le {r : Ry} {w h : Int} (ho : ryOk r w h) : (r.hn : Int) ≤ h := by
  have h1 := ho.1.2; have h2 := ho.2.2
  rw [Ry.hn, Ry.dy, sz]; omega
theorem mem_crC {r : Ry} {x y : Int} {c : Cel} : c ∈ crC r y x ↔ crs r x y = true ∧ c = (x, y) := by
  rw [crC]; split <;> simp_all
/-- Every cell that is crossed lies in the rectangle of both ends. -/
theorem crS_mem {r : Ry} {c : Cel} : c ∈ crS r ↔ crs r c.1 c.2 = true ∧ (r.x0 ≤ c.1 ∧ c.1 < r.x0 + r.wn) ∧ r.y0 ≤ c.2 ∧ c.2 < r.y0 + r.hn := by
  rw [crS, catR_mem]
  constructor
  · rintro ⟨i, hi, h⟩
    obtain ⟨j, hj, h1⟩ := catR_mem.1 h
    obtain ⟨h2, rfl⟩ := mem_crC.1 h1
    exact ⟨h2, ⟨by simp only; omega, by simp only; omega⟩, by simp only; omega, by simp only; omega⟩
  · rintro ⟨h, hx, hy⟩
    refine ⟨(c.2 - r.y0).toNat, by omega, catR_mem.2 ⟨(c.1 - r.x0).toNat, by omega, mem_crC.2 ?_⟩⟩
    have e1 : r.x0 + ((c.1 - r.x0).toNat : Int) = c.1 := by omega
    have e2 : r.y0 + ((c.2 - r.y0).toNat : Int) = c.2 := by omega
    rw [e1, e2]; exact ⟨h, rfl⟩
theorem crS_len {r : Ry} : (crS r).length ≤ r.hn * r.wn := catR_len fun _ => crR_len
end Go.Pw

set_option linter.unusedSimpArgs false
namespace Go.Pw
set_option maxRecDepth 2000
open Go Go.Proofs A1 A2 A3 A4
abbrev r5 (r : Ry) : List D := [dI r.1.1, dI r.1.2, dI r.2.1.1, dI r.2.1.2, .v (.bool r.2.2)]
abbrev ryd : Ry := ((0, 0), (0, 0), false)
abbrev rys (l : List Ry) : C := slv 5 r5 ryd l
abbrev ryv (r : Ry) : V := .agg [int r.1.1, int r.1.2, int r.2.1.1, int r.2.1.2, .d (.v (.bool r.2.2))]
theorem C79 {c : Pr} {w g : Int} : ((-1000000 ≤ w ∧ w ≤ 1000000) ∧ -1000000 ≤ g ∧ g ≤ 1000000) → PFD Try.prog 79 [pr c, vi .i64 w, vi .i64 g] (vbl (decide (inG c w g))) := fun ⟨hw, hh⟩ => by
  refine pi1 fn79 ?_
  (repeat' first | (refine Owe.same ?_; first | refine Owe.o ?_ | refine Owe.mk ?_ ?_) | (refine Fork.same ?_; (first | refine fkD ?_ ?_ | refine fkN ?_ ?_ | refine fkM ?_ ?_) <;> intro h) | ((first | refine OpsL.same ?_ | refine OpsDL.same ?_); first | refine pK C50 rfl rfl ?_) | refine MvQ.stay ?_)
  · (refine rqK rfl ?_; (repeat' first | exact rfl | (refine qS ?_; constructor)))
    exact decide_eq_decide.2 ⟨fun hh => ⟨h, hh⟩, fun hh => hh.2⟩
  · (refine rqK rfl ?_; (repeat' first | exact rfl | (refine qS ?_; constructor)))
    rw [decide_eq_false]; exact fun hh => h hh.1
theorem C43 {r : Ry} {w g : Int} : ((-1000000 ≤ w ∧ w ≤ 1000000) ∧ -1000000 ≤ g ∧ g ≤ 1000000) → PFD Try.prog 43 [ryv r, vi .i64 w, vi .i64 g] (vi .i64 (unl (ryOk r w g) 6)) := fun ⟨hw, hh⟩ => by
  refine pi1 fn43 ?_
  (repeat' first | (refine Owe.same ?_; first | refine Owe.o ?_ | refine Owe.mk ?_ ?_) | (refine Fork.same ?_; (first | refine fkD ?_ ?_ | refine fkN ?_ ?_ | refine fkM ?_ ?_) <;> intro h) | ((first | refine OpsL.same ?_ | refine OpsDL.same ?_); first | refine pK C79 rfl rfl ?_ | refine pK C49 rfl rfl ?_) | refine MvQ.stay ?_)
  · (refine rqK rfl ?_; (repeat' first | exact rfl | (refine qS ?_; constructor)))
    rw [unl]; congr 1; exact decide_eq_decide.2 ⟨fun hh => ⟨h, hh⟩, fun hh => hh.2⟩
  · (refine rqK rfl ?_; (repeat' first | exact rfl | (refine qS ?_; constructor)))
    rw [unl, decide_eq_false]; exact fun hh => h hh.1
theorem mulb {a b : Int} (ha : -12 ≤ a ∧ a ≤ 12) (hb : -12 ≤ b ∧ b ≤ 12) : -288 ≤ a * 2 * b ∧ a * 2 * b ≤ 288 := by
  have h1 : (a * 2) * b ≤ 288 ∧ -288 ≤ (a * 2) * b := by
    have e : (a * 2) * b = 2 * (a * b) := by rw [Int.mul_comm a 2, Int.mul_assoc]
    rw [e]
    have : a.natAbs * b.natAbs ≤ 12 * 12 := Nat.mul_le_mul (by omega) (by omega)
    rw [← Int.natAbs_mul] at this
    omega
  omega
theorem C44 {r : Ry} : ryOk r 12 12 → PFD Try.prog 44 [ryv r] (.c (prs (crS r))) := fun hO => by
  obtain ⟨⟨fx, fy⟩, ⟨tx, ty⟩, b⟩ := r
  obtain ⟨⟨hx1, hy1⟩, hx2, hy2⟩ := hO
  simp only at hx1 hy1 hx2 hy2
  have hwn : ((Ry.wn ((fx, fy), (tx, ty), b) : Nat) : Int) = max fx tx - min fx tx + 1 := by simp only [Ry.wn, Ry.dx, sz]; omega
  have hhn : ((Ry.hn ((fx, fy), (tx, ty), b) : Nat) : Int) = max fy ty - min fy ty + 1 := by simp only [Ry.hn, Ry.dy, sz]; omega
  obtain ⟨S, hS⟩ : ∃ S, S = crS ((fx, fy), (tx, ty), b) := ⟨_, rfl⟩
  rw [← hS]
  refine pi1 fn44 ?_
  (repeat' first | (refine Owe.same ?_; first | refine Owe.o ?_ | refine Owe.mk ?_ ?_) | (refine Fork.same ?_; (first | refine fkD ?_ ?_ | refine fkN ?_ ?_ | refine fkM ?_ ?_) <;> intro h) | refine MvQ.stay ?_)
  refine Sat.nilS 5 23 2 (fun i => r2 (([] : List Pr).getD i (0, 0))) rfl ?_
  refine Sat.lp (fun s : Int × List Pr => ⟨[(6, vi .i64 s.1), (3, vi .i64 (tx - fx)), (4, vi .i64 (ty - fy)), (1, .c (.rp [dI fx, dI fy, dI tx, dI ty, .v (.bool b)])), (5, .c (.ms 0 s.2.length))], [(0, rowv 23 2 r2 (0, 0) s.2)], 1⟩)
    (fun s => (min fy ty ≤ s.1 ∧ s.1 ≤ max fy ty + 1) ∧ s.2 = catR (crR ((fx, fy), (tx, ty), b)) (min fy ty) (s.1 - min fy ty).toNat) (fun s => (max fy ty + 1 - s.1).toNat) (min fy ty, []) [16] ?_ ?_ ?_
  · refine ⟨by simp only; omega, ?_⟩
    simp only [Int.sub_self]; rfl
  · (refine qis ?_ ?_ <;> (repeat' first | exact rfl | (refine qS ?_; constructor)))
  · intro ⟨y, out⟩ hk
    simp only at hk ⊢
    have hol : out.length ≤ (y - min fy ty).toNat * Ry.wn ((fx, fy), (tx, ty), b) := by rw [hk.2]; exact catR_len fun _ => crR_len
    have hol2 : (y - min fy ty).toNat * Ry.wn ((fx, fy), (tx, ty), b) ≤ 12 * 12 := Nat.mul_le_mul (by omega) (by omega)
    (repeat' first | (refine Owe.same ?_; first | refine Owe.o ?_ | refine Owe.mk ?_ ?_) | (refine Fork.same ?_; (first | refine fkD ?_ ?_ | refine fkN ?_ ?_ | refine fkM ?_ ?_) <;> intro h) | refine MvQ.stay ?_)
    · refine Sat.lp (fun s : Int × List Pr => ⟨[(7, vi .i64 s.1), (6, vi .i64 y), (3, vi .i64 (tx - fx)), (4, vi .i64 (ty - fy)), (1, .c (.rp [dI fx, dI fy, dI tx, dI ty, .v (.bool b)])), (5, .c (.ms 0 s.2.length))], [(0, rowv 23 2 r2 (0, 0) s.2)], 1⟩)
        (fun s => (min fx tx ≤ s.1 ∧ s.1 ≤ max fx tx + 1) ∧ s.2 = out ++ catR (crC ((fx, fy), (tx, ty), b) y) (min fx tx) (s.1 - min fx tx).toNat) (fun s => (max fx tx + 1 - s.1).toNat) (min fx tx, out) [0] ?_ ?_ ?_
      · refine ⟨by simp only; omega, ?_⟩
        simp only [Int.sub_self]; exact (List.append_nil _).symm
      · (refine qis ?_ ?_ <;> (repeat' first | exact rfl | (refine qS ?_; constructor)))
      · intro ⟨x, o⟩ hj
        simp only at hj ⊢
        have hjl := catR_len (f := crC ((fx, fy), (tx, ty), b) y) (a := min fx tx) (k := (x - min fx tx).toNat) (crC_len _ _)
        have hjl : o.length ≤ 200 := by rw [hj.2, List.length_append]; omega
        have hs : catR (crC ((fx, fy), (tx, ty), b) y) (min fx tx) (x + 1 - min fx tx).toNat = catR (crC ((fx, fy), (tx, ty), b) y) (min fx tx) (x - min fx tx).toNat ++ crC ((fx, fy), (tx, ty), b) y x := by
          have e : (x + 1 - min fx tx).toNat = (x - min fx tx).toNat + 1 := by omega
          rw [e, catR]; congr 2; omega
        have m1 := mulb (a := tx - fx) (b := y - fy) (by omega) (by omega)
        have m2 := mulb (a := ty - fy) (b := x - fx) (by omega) (by omega)
        (repeat' first | (refine Owe.same ?_; first | refine Owe.o ?_ | refine Owe.mk ?_ ?_) | (refine Fork.same ?_; (first | refine fkD ?_ ?_ | refine fkN ?_ ?_ | refine fkM ?_ ?_) <;> intro h) | ((first | refine OpsL.same ?_ | refine OpsDL.same ?_); first | refine pK C80 rfl rfl ?_) | refine MvQ.stay ?_)
        · have hc : crC ((fx, fy), (tx, ty), b) y x = [(x, y)] := by
            rw [crC, if_pos]; rw [crs]; exact decide_eq_true (.inl h)
          rw [hc] at hs
          refine again (x + 1, o ++ [(x, y)]) [1] ⟨by simp only; omega, by simp only; rw [hs, hj.2, List.append_assoc]⟩ (by simp only; omega) ?_
          (refine qis ?_ ?_ <;> (repeat' first | exact rfl | (refine qS ?_; constructor)))
          simp
        · rename_i h0 h1 h2
          have hc : crC ((fx, fy), (tx, ty), b) y x = [(x, y)] := by
            rw [crC, if_pos]; rw [crs]; exact decide_eq_true (.inr ⟨h2, h⟩)
          rw [hc] at hs
          refine again (x + 1, o ++ [(x, y)]) [1] ⟨by simp only; omega, by simp only; rw [hs, hj.2, List.append_assoc]⟩ (by simp only; omega) ?_
          (refine qis ?_ ?_ <;> (repeat' first | exact rfl | (refine qS ?_; constructor)))
          simp
        · rename_i h0 h1 h2
          have hc : crC ((fx, fy), (tx, ty), b) y x = [] := by
            rw [crC, if_neg]; rw [crs]; exact fun hh => (of_decide_eq_true hh).elim h1 fun hq => h hq.2
          rw [hc, List.append_nil] at hs
          refine again (x + 1, o) [0] ⟨by simp only; omega, by simp only; rw [hs, hj.2]⟩ (by simp only; omega) ?_
          (refine qis ?_ ?_ <;> (repeat' first | exact rfl | (refine qS ?_; constructor)))
        · rename_i h0 h1
          have hc : crC ((fx, fy), (tx, ty), b) y x = [] := by
            rw [crC, if_neg]; rw [crs]; exact fun hh => (of_decide_eq_true hh).elim h1 fun hq => h hq.1
          rw [hc, List.append_nil] at hs
          refine again (x + 1, o) [0] ⟨by simp only; omega, by simp only; rw [hs, hj.2]⟩ (by simp only; omega) ?_
          (refine qis ?_ ?_ <;> (repeat' first | exact rfl | (refine qS ?_; constructor)))
        · have e : (x - min fx tx).toNat = Ry.wn ((fx, fy), (tx, ty), b) := by omega
          have e2 : (y + 1 - min fy ty).toNat = (y - min fy ty).toNat + 1 := by omega
          refine again (y + 1, o) [0] ⟨by simp only; omega, ?_⟩ (by simp only; omega) ?_
          · simp only
            rw [e2, catR, hj.2, hk.2, e]
            congr 1
            have : min fy ty + ((y - min fy ty).toNat : Int) = y := by omega
            rw [this]; rfl
          · (refine qis ?_ ?_ <;> (repeat' first | exact rfl | (refine qS ?_; constructor)))
    · have e : out = S := by
        rw [hk.2, hS, crS]
        have : (y - min fy ty).toNat = Ry.hn ((fx, fy), (tx, ty), b) := by omega
        rw [this]; rfl
      subst e
      (repeat' first | (refine Owe.same ?_; first | refine Owe.o ?_ | refine Owe.mk ?_ ?_) | (refine Fork.same ?_; (first | refine fkD ?_ ?_ | refine fkN ?_ ?_ | refine fkM ?_ ?_) <;> intro h) | refine MvQ.stay ?_)
      refine rqF 0 _ rfl rfl rfl ?_; (repeat' first | exact rfl | (refine qS ?_; constructor))
end Go.Pw

set_option linter.unusedSimpArgs false
namespace Go.Pw
set_option maxRecDepth 2000
open Go Go.Proofs A1 A2 A3 A4
abbrev Sc := Int × Int × List Ry
abbrev rysD (l : List Ry) : D := .sl 5 l.length fun i => r5 (l.getD i ryd)
abbrev scD (s : Sc) : List D := [dI s.1, dI s.2.1, rysD s.2.2]
abbrev scv (s : Sc) : V := .agg [int s.1, int s.2.1, rys s.2.2]
theorem C122 {n : Int} : PFD Try.prog 122 [vi .i64 n] (vbl (decide (1 ≤ n ∧ n ≤ 12))) := by
  refine pi1 fn122 ?_
  (repeat' first | (refine Owe.same ?_; first | refine Owe.o ?_ | refine Owe.mk ?_ ?_) | (refine Fork.same ?_; (first | refine fkD ?_ ?_ | refine fkN ?_ ?_ | refine fkM ?_ ?_) <;> intro h) | ((first | refine OpsL.same ?_ | refine OpsDL.same ?_); first | refine pK C50 rfl rfl ?_) | refine MvQ.stay ?_)
  (refine rqK rfl ?_; (repeat' first | exact rfl | (refine qS ?_; constructor)))
/-- The error of columns and rows, and of the number of rays. -/
def gridE (w h : Int) (n : Int) : Int := fstE [unl ((1 ≤ w ∧ w ≤ 12) ∧ 1 ≤ h ∧ h ≤ 12) 2, unl (n ≤ 10) 8]
theorem unl_of {p : Prop} [Decidable p] {b : Bool} {e : Int} (h : b = decide p) : unb b e = unl p e := by subst h; rfl
theorem C101 {w g n : Int} : PFD Try.prog 101 [vi .i64 w, vi .i64 g, vi .i64 n] (vi .i64 (gridE w g n)) := by
  refine pi1 fn101 ?_
  (repeat' first | (refine Owe.same ?_; first | refine Owe.o ?_ | refine Owe.mk ?_ ?_) | (refine Fork.same ?_; (first | refine fkD ?_ ?_ | refine fkN ?_ ?_ | refine fkM ?_ ?_) <;> intro h) | ((first | refine OpsL.same ?_ | refine OpsDL.same ?_); first | refine pK C122 rfl rfl ?_ | refine pK C49 rfl rfl ?_ | refine pK C47 rfl rfl ?_) | refine MvQ.stay ?_)
  · (refine rqK rfl ?_; (repeat' first | exact rfl | (refine qS ?_; constructor)))
    rw [gridE, ← unl_of (decide_eq_decide.2 ⟨fun hh => ⟨h, hh⟩, fun hh => hh.2⟩)]
  · (refine rqK rfl ?_; (repeat' first | exact rfl | (refine qS ?_; constructor)))
    rw [gridE, ← unl_of (decide_eq_false fun hh => h hh.1).symm]
theorem C116 {i : Int} {r : Ry} {w g : Int} {d : D} : ((-1000000 ≤ w ∧ w ≤ 1000000) ∧ -1000000 ≤ g ∧ g ≤ 1000000) → PFD Try.prog 116 [vi .i64 i, ryv r, .c (.rp [dI w, dI g, d])] (vi .i64 (unl (ryOk r w g) 6)) := fun hw => by
  refine pi1 fn116 ?_
  (repeat' first | (refine Owe.same ?_; first | refine Owe.o ?_ | refine Owe.mk ?_ ?_) | (refine Fork.same ?_; (first | refine fkD ?_ ?_ | refine fkN ?_ ?_ | refine fkM ?_ ?_) <;> intro h) | ((first | refine OpsL.same ?_ | refine OpsDL.same ?_); first | refine pK C43 rfl rfl ?_) | refine MvQ.stay ?_)
  (refine rqK rfl ?_; (repeat' first | exact rfl | (refine qS ?_; constructor)))
theorem C115 {g : FuncId} {rows : List (List D)} {f : Ry → Int} (hg : ∀ (i : Int) (x : Ry), PFD Try.prog g (vi .i64 i :: ryv x :: rows.map fun r => .c (.rp r)) (vi .i64 (f x))) {l : List Ry} : l.length ≤ 1000000 → PFD Try.prog 115 [.c (rys l), .c (.fnR g rows)] (.tup [vi .i64 (eachE f 0 l).1, vi .i64 (eachE f 0 l).2]) := fun hl => by
  refine pi2 fn115 ?_
  (repeat' first | (refine Owe.same ?_; first | refine Owe.o ?_ | refine Owe.mk ?_ ?_) | (refine Fork.same ?_; (first | refine fkD ?_ ?_ | refine fkN ?_ ?_ | refine fkM ?_ ?_) <;> intro h) | refine MvQ.stay ?_)
  refine Sat.lp0 (fun k : Nat => [(11, vi .i64 k), (10, vi .i64 l.length), (9, .c (rys l)), (1, .c (.fnR g rows))]) (fun k => k ≤ l.length ∧ eachE f 0 l = eachE f k (l.drop k)) (fun k => l.length - k) 0 ⟨Nat.zero_le _, rfl⟩ (by ((first | refine qen ?_ | refine qvs ?_ | refine qeq ?_ | refine qst ?_ | refine qv ?_ | refine qc ?_ | refine qe ?_ | refine qcs ?_ | skip); (repeat' first | exact rfl | (refine qS ?_; constructor)))) ?_
  intro k hk
  (repeat' first | (refine Owe.same ?_; first | refine Owe.o ?_ | refine Owe.mk ?_ ?_) | (refine Fork.same ?_; (first | refine fkD ?_ ?_ | refine fkN ?_ ?_ | refine fkM ?_ ?_) <;> intro h) | ((first | refine OpsL.same ?_ | refine OpsDL.same ?_); first | refine pR (hg _ (l.getD k ryd)) rfl rfl ?_) | refine MvQ.stay ?_)
  · have e := eachE_drop f ryd l k (by omega)
    have h : ¬ f (l.getD k ryd) = 0 := h
    rw [if_neg h, ← hk.2] at e
    (refine rqK rfl ?_; (repeat' first | exact rfl | (refine qS ?_; constructor))) <;> rw [e]
  · have e := eachE_drop f ryd l k (by omega)
    have h : f (l.getD k ryd) = 0 := h
    rw [if_pos h, ← hk.2] at e
    exact again0 (k + 1) ⟨by omega, e⟩ (by omega) (by ((first | refine qen ?_ | refine qvs ?_ | refine qeq ?_ | refine qst ?_ | refine qv ?_ | refine qc ?_ | refine qe ?_ | refine qcs ?_ | skip); (repeat' first | exact rfl | (refine qS ?_; constructor))))
  · have e : eachE f 0 l = (0, 0) := by rw [hk.2, List.drop_of_length_le (by omega)]; rfl
    (refine rqK rfl ?_; (repeat' first | exact rfl | (refine qS ?_; constructor))) <;> rw [e]
/-- The error of a scene, with the index of a ray. -/
def scE (s : Sc) : Int × Int := if gridE s.1 s.2.1 s.2.2.length = 0 then eachE (fun r => unl (ryOk r s.1 s.2.1) 6) 0 s.2.2 else (0, gridE s.1 s.2.1 s.2.2.length)
theorem gridE_ok {w h n : Int} : gridE w h n = 0 ↔ ((1 ≤ w ∧ w ≤ 12) ∧ 1 ≤ h ∧ h ≤ 12) ∧ n ≤ 10 := by
  rw [gridE, fst2, unl0 (by decide), unl0 (by decide)]
theorem C88 {s : Sc} : s.2.2.length ≤ 1000000 → PFD Try.prog 88 [scv s] (.tup [vi .i64 (scE s).1, vi .i64 (scE s).2]) := fun hl => by
  obtain ⟨w, g, l⟩ := s
  refine pi2 fn88 ?_
  (repeat' first | (refine Owe.same ?_; first | refine Owe.o ?_ | refine Owe.mk ?_ ?_) | (refine Fork.same ?_; (first | refine fkD ?_ ?_ | refine fkN ?_ ?_ | refine fkM ?_ ?_) <;> intro h) | ((first | refine OpsL.same ?_ | refine OpsDL.same ?_); first | refine pK C101 rfl rfl ?_) | refine MvQ.stay ?_)
  · have h : ¬ gridE w g l.length = 0 := h
    (refine rqK rfl ?_; (repeat' first | exact rfl | (refine qS ?_; constructor))) <;> rw [scE, if_neg h]
  · have h : gridE w g l.length = 0 := h
    have hr : scE (w, g, l) = eachE (fun r => unl (ryOk r w g) 6) 0 l := by rw [scE, if_pos h]
    rw [hr]
    have hb := gridE_ok.1 h
    have c1 := C115 (g := 116) (rows := [scD (w, g, l)]) (f := fun r => unl (ryOk r w g) 6) (fun i x => C116 (w := w) (g := g) (d := rysD l) ⟨by omega, by omega⟩) (l := l) hl
    (repeat' first | (refine Owe.same ?_; first | refine Owe.o ?_ | refine Owe.mk ?_ ?_) | (refine Fork.same ?_; (first | refine fkD ?_ ?_ | refine fkN ?_ ?_ | refine fkM ?_ ?_) <;> intro h) | ((first | refine OpsL.same ?_ | refine OpsDL.same ?_); first | refine pK c1 rfl rfl ?_) | refine MvQ.stay ?_)
    (refine rqK rfl ?_; (repeat' first | exact rfl | (refine qS ?_; constructor)))
theorem C67 {s : Sc} : s.2.2.length ≤ 1000000 → PFD Try.prog 67 [scv s] (vi .i64 (scE s).2) := fun hl => by
  refine pi1 fn67 ?_
  (repeat' first | (refine Owe.same ?_; first | refine Owe.o ?_ | refine Owe.mk ?_ ?_) | (refine Fork.same ?_; (first | refine fkD ?_ ?_ | refine fkN ?_ ?_ | refine fkM ?_ ?_) <;> intro h) | ((first | refine OpsL.same ?_ | refine OpsDL.same ?_); first | refine pK (C88 hl) rfl rfl ?_) | refine MvQ.stay ?_)
  (refine rqK rfl ?_; (repeat' first | exact rfl | (refine qS ?_; constructor)))
theorem C107 {c : Pr} {w : Int} : ((0 ≤ c.2 ∧ c.2 ≤ 1000) ∧ (0 ≤ c.1 ∧ c.1 ≤ 1000) ∧ 0 ≤ w ∧ w ≤ 1000) → PFD Try.prog 107 [pr c, vi .i64 w] (vi .i64 (c.2 * w + c.1)) := fun ⟨h1, h2, h3⟩ => by
  have m : 0 ≤ c.2 * w ∧ c.2 * w ≤ 1000 * 1000 := ⟨Int.mul_nonneg h1.1 h3.1, Int.mul_le_mul h1.2 h3.2 h3.1 (by decide)⟩
  refine pi1 fn107 ?_
  (repeat' first | (refine Owe.same ?_; first | refine Owe.o ?_ | refine Owe.mk ?_ ?_) | (refine Fork.same ?_; (first | refine fkD ?_ ?_ | refine fkN ?_ ?_ | refine fkM ?_ ?_) <;> intro h) | refine MvQ.stay ?_)
  (refine rqK rfl ?_; (repeat' first | exact rfl | (refine qS ?_; constructor)))
def idxE (n : Int) : Int → List Int → Int
  | _, [] => -1
  | k, x :: l => if n = x then k else idxE n (k + 1) l
theorem idxE_drop (n : Int) (l : List Int) (k : Nat) (h : k < l.length) : idxE n k (l.drop k) = if n = l.getD k 0 then (k : Int) else idxE n ((k + 1 : Nat) : Int) (l.drop (k + 1)) := by
  have e : l.drop k = l.getD k 0 :: l.drop (k + 1) := by
    rw [List.getD_eq_getElem?_getD, List.getElem?_eq_getElem h]; exact List.drop_eq_getElem_cons h
  rw [e, idxE]; rfl
theorem idxE_ge (n : Int) : ∀ (l : List Int) (k : Int), 0 ≤ k → (0 ≤ idxE n k l ↔ n ∈ l)
  | [], k, _ => by simp [idxE]
  | x :: l, k, hk => by
    rw [idxE]
    split
    · rename_i h; subst h; simp [hk]
    · rename_i h; rw [idxE_ge n l (k + 1) (by omega), List.mem_cons]; simp [h]
theorem C92 {l : List Int} {n : Int} : l.length ≤ 1000000 → PFD Try.prog 92 [.c (ints l), vi .i64 n] (vi .i64 (idxE n 0 l)) := fun hl => by
  refine pi1 fn92 ?_
  (repeat' first | (refine Owe.same ?_; first | refine Owe.o ?_ | refine Owe.mk ?_ ?_) | (refine Fork.same ?_; (first | refine fkD ?_ ?_ | refine fkN ?_ ?_ | refine fkM ?_ ?_) <;> intro h) | refine MvQ.stay ?_)
  refine Sat.lp0 (fun k : Nat => [(8, vi .i64 k), (7, vi .i64 l.length), (0, .c (ints l)), (1, vi .i64 n)]) (fun k => k ≤ l.length ∧ idxE n 0 l = idxE n k (l.drop k)) (fun k => l.length - k) 0 ⟨Nat.zero_le _, rfl⟩ (by ((first | refine qen ?_ | refine qvs ?_ | refine qeq ?_ | refine qst ?_ | refine qv ?_ | refine qc ?_ | refine qe ?_ | refine qcs ?_ | skip); (repeat' first | exact rfl | (refine qS ?_; constructor)))) ?_
  intro k hk
  (repeat' first | (refine Owe.same ?_; first | refine Owe.o ?_ | refine Owe.mk ?_ ?_) | (refine Fork.same ?_; (first | refine fkD ?_ ?_ | refine fkN ?_ ?_ | refine fkM ?_ ?_) <;> intro h) | refine MvQ.stay ?_)
  · have e := idxE_drop n l k (by omega)
    have h : n = l.getD k 0 := h
    rw [if_pos h, ← hk.2] at e
    (refine rqK rfl ?_; (repeat' first | exact rfl | (refine qS ?_; constructor))); rw [e]
  · have e := idxE_drop n l k (by omega)
    have h : ¬ n = l.getD k 0 := h
    rw [if_neg h, ← hk.2] at e
    exact again0 (k + 1) ⟨by omega, e⟩ (by omega) (by ((first | refine qen ?_ | refine qvs ?_ | refine qeq ?_ | refine qst ?_ | refine qv ?_ | refine qc ?_ | refine qe ?_ | refine qcs ?_ | skip); (repeat' first | exact rfl | (refine qS ?_; constructor))))
  · have e : idxE n 0 l = -1 := by rw [hk.2, List.drop_of_length_le (by omega)]; rfl
    (refine rqK rfl ?_; (repeat' first | exact rfl | (refine qS ?_; constructor))); rw [e]
theorem C70 {l : List Int} {n : Int} : l.length ≤ 1000000 → PFD Try.prog 70 [.c (ints l), vi .i64 n] (vbl (decide (n ∈ l))) := fun hl => by
  refine pi1 fn70 ?_
  (repeat' first | (refine Owe.same ?_; first | refine Owe.o ?_ | refine Owe.mk ?_ ?_) | (refine Fork.same ?_; (first | refine fkD ?_ ?_ | refine fkN ?_ ?_ | refine fkM ?_ ?_) <;> intro h) | ((first | refine OpsL.same ?_ | refine OpsDL.same ?_); first | refine pK (C92 hl) rfl rfl ?_) | refine MvQ.stay ?_)
  (refine rqK rfl ?_; (repeat' first | exact rfl | (refine qS ?_; constructor)))
  exact decide_eq_decide.2 (idxE_ge n l 0 (Int.le_refl _))
end Go.Pw

set_option linter.unusedVariables false
set_option maxHeartbeats 2000000
set_option maxRecDepth 100000
namespace Go.Pw
open Go Go.Proofs
/-- moonpool/sonar.said -/
def lc93u : LCode :=
  (.seq (.region [⟨some 2, .box (.tmp 0), none⟩, ⟨some 3, .box (.tmp 1), none⟩, ⟨some 4, .mv (.const .nilFunc), none⟩]) (.seq (.region [⟨some 5, .mkfn 118 [(.tmp 2), (.tmp 3)],
    none⟩, ⟨some 4, .mv (.tmp 5), none⟩]) .ret))
theorem low93u : lowF Try.prog [] Try.f93 = some (6, lc93u.strip, [.tmp 4]) := by kernel_rfl
theorem fn93u : FnOk Try.prog 93 6 lc93u [.tmp 4] := ⟨Try.call93, [], _, Try.func93, low93u⟩
end Go.Pw

set_option linter.unusedSimpArgs false
namespace Go.Pw
set_option maxRecDepth 2000
open Go Go.Proofs A1 A2 A3 A4
/-- Both bits, as the program has them. -/
def orI (a b : Int) : Int := IntKind.i64.wrap ((BitVec.ofInt IntKind.i64.bits a ||| BitVec.ofInt IntKind.i64.bits b).toNat : Nat)
def stC (r : Ry) (c : Cel) : Int := if c = r.2.1 ∧ r.2.2 = true then 2 else 1
def cellN (w : Int) (c : Cel) : Nat := (c.2 * w + c.1).toNat
def updS (w : Int) (r : Ry) (out : List Int) (c : Cel) : List Int := out.set (cellN w c) (orI (out.getD (cellN w c) 0) (stC r c))
def stR (w : Int) (r : Ry) (out : List Int) : List Int := (crS r).foldl (updS w r) out
/-- The states after so many rays. -/
def stK (s : Sc) (wo : List Int) : Nat → List Int
  | 0 => List.replicate (s.1 * s.2.1).toNat 0
  | k + 1 => if (k : Int) ∈ wo then stK s wo k else stR s.1 (s.2.2.getD k ryd) (stK s wo k)
def stS (s : Sc) (wo : List Int) : List Int := stK s wo s.2.2.length
structure ScOk (s : Sc) : Prop where
  w : 1 ≤ s.1 ∧ s.1 ≤ 12
  h : 1 ≤ s.2.1 ∧ s.2.1 ≤ 12
  n : s.2.2.length ≤ 10
  r : ∀ i, i < s.2.2.length → ryOk (s.2.2.getD i ryd) s.1 s.2.1
/-- The states when so many cells of a ray are seen to. -/
def stJ (w : Int) (r : Ry) (out : List Int) (j : Nat) : List Int := ((crS r).take j).foldl (updS w r) out
theorem stJ_succ {w : Int} {r : Ry} {out : List Int} {j : Nat} (h : j < (crS r).length) : stJ w r out (j + 1) = updS w r (stJ w r out j) ((crS r).getD j (0, 0)) := by
  rw [stJ, stJ, List.take_add_one, List.foldl_append, List.getElem?_eq_getElem h, List.getD_eq_getElem?_getD, List.getElem?_eq_getElem h]; rfl
theorem stJ_all {w : Int} {r : Ry} {out : List Int} : stJ w r out (crS r).length = stR w r out := by rw [stJ, List.take_length]; rfl
theorem foldU_len {w : Int} {r : Ry} : ∀ (l : List Cel) (out : List Int), (l.foldl (updS w r) out).length = out.length
  | [], _ => rfl
  | c :: l, out => by rw [List.foldl_cons, foldU_len l]; simp [updS]
theorem stK_len {s : Sc} {wo : List Int} : ∀ k, (stK s wo k).length = (s.1 * s.2.1).toNat
  | 0 => by simp [stK]
  | k + 1 => by
    rw [stK]; split
    · exact stK_len k
    · rw [stR, foldU_len]; exact stK_len k
theorem crS_in {r : Ry} {w g : Int} (hO : ryOk r w g) {c : Cel} (hc : c ∈ crS r) : inG c w g := by
  obtain ⟨_, hx, hy⟩ := crS_mem.1 hc
  obtain ⟨h1, h2⟩ := hO
  simp only [inG, Ry.x0, Ry.y0, Ry.wn, Ry.hn, Ry.dx, Ry.dy, sz] at *
  omega
theorem stC_2 {r : Ry} {c : Cel} (h : (decide (c.1 = r.2.1.1) && decide (c.2 = r.2.1.2)) = true) (h2 : r.2.2 = true) : stC r c = 2 := by
  simp only [Bool.and_eq_true, decide_eq_true_eq] at h
  rw [stC, if_pos ⟨Prod.ext h.1 h.2, h2⟩]
theorem stC_1a {r : Ry} {c : Cel} (h : (decide (c.1 = r.2.1.1) && decide (c.2 = r.2.1.2)) = false) : stC r c = 1 := by
  rw [stC, if_neg]
  rintro ⟨rfl, _⟩
  simp at h
theorem stC_1b {r : Ry} {c : Cel} (h : r.2.2 = false) : stC r c = 1 := by
  rw [stC, if_neg]
  rintro ⟨_, h2⟩
  rw [h] at h2; cases h2
theorem cell_bd {c : Cel} {w g : Int} (hc : inG c w g) (hw : 1 ≤ w) : 0 ≤ c.2 * w + c.1 ∧ c.2 * w + c.1 < w * g := by
  simp only [inG] at hc
  have h1 : 0 ≤ c.2 * w := Int.mul_nonneg (by omega) (by omega)
  have h2 : c.2 * w ≤ (g - 1) * w := Int.mul_le_mul_of_nonneg_right (by omega) (by omega)
  rw [Int.sub_mul, Int.one_mul, Int.mul_comm g w] at h2
  omega
theorem C71 {s : Sc} {wo : List Int} : (ScOk s ∧ wo.length ≤ 1000000) → PFD Try.prog 71 [scv s, .c (ints wo)] (.c (ints (stS s wo))) := fun ⟨hO, hwo⟩ => by
  obtain ⟨w, g, l⟩ := s
  have hw := hO.w; have hh := hO.h; have hn := hO.n
  simp only at hw hh hn
  obtain ⟨S, hS⟩ : ∃ S, S = stS (w, g, l) wo := ⟨_, rfl⟩
  rw [← hS]
  have mwg : 1 ≤ w * g ∧ w * g ≤ 144 := by
    have h1 : (1 : Int) * 1 ≤ w * g := Int.mul_le_mul hw.1 hh.1 (by decide) (by omega)
    have h2 : w * g ≤ 12 * 12 := Int.mul_le_mul hw.2 hh.2 (by omega) (by decide)
    omega
  refine pi1 fn71 ?_
  (repeat' first | (refine Owe.same ?_; first | refine Owe.o ?_ | refine Owe.mk ?_ ?_) | (refine Fork.same ?_; (first | refine fkD ?_ ?_ | refine fkN ?_ ?_ | refine fkM ?_ ?_) <;> intro h) | refine MvQ.stay ?_)
  refine Sat.lp (fun k : Nat => ⟨[(18, vi .i64 k), (17, vi .i64 l.length), (16, .c (rys l)), (1, .c (ints wo)), (2, .c (.rp (scD (w, g, l)))), (5, .c (.bp 1 0))], [(1, .box [.ms 0 (stK (w, g, l) wo k).length]), (0, rowv 3 1 r1 0 (stK (w, g, l) wo k))], 2⟩)
    (fun k => k ≤ l.length) (fun k => l.length - k) 0 [0, 1] (Nat.zero_le _) ?_ ?_
  · (refine qis ?_ ?_ <;> (repeat' first | exact rfl | (refine qS ?_; constructor)))
    · simp [stK]
    · exact ⟨0, rfl, rfl⟩
  · intro k hk
    refine Fork.dec (fun hlt => ?_) (fun hlt => ?_)
    · have hlt : k < l.length := by omega
      have hr := hO.r k hlt
      simp only at hr
      (repeat' first | (refine Owe.same ?_; first | refine Owe.o ?_ | refine Owe.mk ?_ ?_) | (refine Fork.same ?_; (first | refine fkD ?_ ?_ | refine fkN ?_ ?_ | refine fkM ?_ ?_) <;> intro h) | ((first | refine OpsL.same ?_ | refine OpsDL.same ?_); first | refine pK C70 rfl rfl ?_) | refine MvQ.stay ?_)
      · have e : stK (w, g, l) wo (k + 1) = stK (w, g, l) wo k := by rw [stK, if_pos h]
        refine again (k + 1) [0, 1] hlt (by omega) ?_
        rw [e]
        (refine qis ?_ ?_ <;> (repeat' first | exact rfl | (refine qS ?_; constructor)))
      · have e : stK (w, g, l) wo (k + 1) = stR w (l.getD k ryd) (stK (w, g, l) wo k) := by rw [stK, if_neg h]
        (repeat' first | (refine Owe.same ?_; first | refine Owe.o ?_ | refine Owe.mk ?_ ?_) | (refine Fork.same ?_; (first | refine fkD ?_ ?_ | refine fkN ?_ ?_ | refine fkM ?_ ?_) <;> intro h) | refine MvQ.stay ?_)
        refine Ops.cs rfl rfl (CallS.of fn93u rfl ?_)
        (repeat' first | (refine Owe.same ?_; first | refine Owe.o ?_ | refine Owe.mk ?_ ?_) | (refine Fork.same ?_; (first | refine fkD ?_ ?_ | refine fkN ?_ ?_ | refine fkM ?_ ?_) <;> intro h) | refine MvQ.stay ?_)
        refine Sat.keep [1, 2, 5, 16, 17, 18, 29] ?_
        refine Sat.rf rfl rfl (CallS.of fn118 rfl ?_)
        (repeat' first | (refine Owe.same ?_; first | refine Owe.o ?_ | refine Owe.mk ?_ ?_) | (refine Fork.same ?_; (first | refine fkD ?_ ?_ | refine fkN ?_ ?_ | refine fkM ?_ ?_) <;> intro h) | refine MvQ.stay ?_)
        have hr12 : ryOk (l.getD k ryd) 12 12 := by simp only [ryOk, inG] at hr ⊢; omega
        have c44 := C44 hr12
        have hin : ∀ c ∈ crS (l.getD k ryd), inG c w g := fun c hc => crS_in hr hc
        have hlen := stK_len (s := (w, g, l)) (wo := wo) k
        have hcl : (crS (l.getD k ryd)).length ≤ 12 * 12 := by
          have h1 := wn_le hr12
          have h2 := hn_le hr12
          exact Nat.le_trans crS_len (Nat.mul_le_mul (by omega) (by omega))
        (repeat' first | (refine Owe.same ?_; first | refine Owe.o ?_ | refine Owe.mk ?_ ?_) | (refine Fork.same ?_; (first | refine fkD ?_ ?_ | refine fkN ?_ ?_ | refine fkM ?_ ?_) <;> intro h) | ((first | refine OpsL.same ?_ | refine OpsDL.same ?_); first | refine pK c44 rfl rfl ?_) | refine MvQ.stay ?_)
        refine Sat.lp (fun j : Nat => ⟨[(10, vi .i64 j), (9, vi .i64 (crS (l.getD k ryd)).length), (8, .c (prs (crS (l.getD k ryd)))), (0, .c (.yd 5)), (1, .c (.bp 3 0)), (2, .c (.bp 4 0))],
            [(5, .lp [(1, .c (ints wo)), (2, .c (.rp (scD (w, g, l)))), (5, .c (.bp 1 0)), (16, .c (rys l)), (17, vi .i64 l.length), (18, vi .i64 k), (29, .c (.fn 118 [3, 4]))] .ready none (RR Try.prog 42 [30] ra71 rb71)),
              (4, .box [int w]), (3, .box [int (l.getD k ryd).1.1, int (l.getD k ryd).1.2, int (l.getD k ryd).2.1.1, int (l.getD k ryd).2.1.2, .d (.v (.bool (l.getD k ryd).2.2))]),
              (1, .box [.ms 0 (stJ w (l.getD k ryd) (stK (w, g, l) wo k) j).length]), (0, rowv 3 1 r1 0 (stJ w (l.getD k ryd) (stK (w, g, l) wo k) j))], 6⟩)
          (fun j => j ≤ (crS (l.getD k ryd)).length) (fun j => (crS (l.getD k ryd)).length - j) 0 [] (Nat.zero_le _) ?_ ?_
        · (refine qis ?_ ?_ <;> (repeat' first | exact rfl | (refine qS ?_; constructor)))
        · intro j hj
          refine Fork.dec (fun hlt => ?_) (fun hlt => ?_)
          · have hlt : j < (crS (l.getD k ryd)).length := by omega
            have hc : inG ((crS (l.getD k ryd)).getD j (0, 0)) w g := hin _ (getD_mem (0, 0) hlt)
            have mc := cell_bd hc hw.1
            have hjl : ∀ j, (stJ w (l.getD k ryd) (stK (w, g, l) wo k) j).length = (w * g).toNat := fun j => by rw [stJ, foldU_len]; exact hlen
            have hj1 := hjl j
            have hu := stJ_succ (w := w) (out := stK (w, g, l) wo k) hlt
            simp only [inG] at hc
            (repeat' first | (refine Owe.same ?_; first | refine Owe.o ?_ | refine Owe.mk ?_ ?_) | (refine Fork.same ?_; (first | refine fkD ?_ ?_ | refine fkN ?_ ?_ | refine fkM ?_ ?_) <;> intro h) | ((first | refine OpsL.same ?_ | refine OpsDL.same ?_); first | refine pK C107 rfl rfl ?_) | refine MvQ.stay ?_)
            · rename_i h1
              have hst : stC (l.getD k ryd) ((crS (l.getD k ryd)).getD j (0, 0)) = 2 := stC_2 h1 h
              refine Ops.yd rfl rfl rfl rfl rfl ?_
              (repeat' first | (refine Owe.same ?_; first | refine Owe.o ?_ | refine Owe.mk ?_ ?_) | (refine Fork.same ?_; (first | refine fkD ?_ ?_ | refine fkN ?_ ?_ | refine fkM ?_ ?_) <;> intro h) | refine MvQ.stay ?_)
              refine And.intro rfl (Exists.intro _ (And.intro rfl ?_))
              (repeat' first | (refine Owe.same ?_; first | refine Owe.o ?_ | refine Owe.mk ?_ ?_) | (refine Fork.same ?_; (first | refine fkD ?_ ?_ | refine fkN ?_ ?_ | refine fkM ?_ ?_) <;> intro h) | refine MvQ.stay ?_)
              refine Exists.intro _ (Exists.intro _ (Exists.intro _ (And.intro rfl ?_)))
              (repeat' first | (refine Owe.same ?_; first | refine Owe.o ?_ | refine Owe.mk ?_ ?_) | (refine Fork.same ?_; (first | refine fkD ?_ ?_ | refine fkN ?_ ?_ | refine fkM ?_ ?_) <;> intro h) | refine MvQ.stay ?_)
              refine again (j + 1) [] hlt (by omega) ?_
              (refine qis ?_ ?_ <;> (repeat' first | exact rfl | (refine qS ?_; constructor)))
              · rw [hjl, hjl]
              · refine ⟨orI ((stJ w (l.getD k ryd) (stK (w, g, l) wo k) j).getD (cellN w ((crS (l.getD k ryd)).getD j (0, 0))) 0) 2, rfl, ?_⟩
                rw [hu, updS, hst]; rfl
            · have hst : stC (l.getD k ryd) ((crS (l.getD k ryd)).getD j (0, 0)) = 1 := stC_1b h
              refine Ops.yd rfl rfl rfl rfl rfl ?_
              (repeat' first | (refine Owe.same ?_; first | refine Owe.o ?_ | refine Owe.mk ?_ ?_) | (refine Fork.same ?_; (first | refine fkD ?_ ?_ | refine fkN ?_ ?_ | refine fkM ?_ ?_) <;> intro h) | refine MvQ.stay ?_)
              refine And.intro rfl (Exists.intro _ (And.intro rfl ?_))
              (repeat' first | (refine Owe.same ?_; first | refine Owe.o ?_ | refine Owe.mk ?_ ?_) | (refine Fork.same ?_; (first | refine fkD ?_ ?_ | refine fkN ?_ ?_ | refine fkM ?_ ?_) <;> intro h) | refine MvQ.stay ?_)
              refine Exists.intro _ (Exists.intro _ (Exists.intro _ (And.intro rfl ?_)))
              (repeat' first | (refine Owe.same ?_; first | refine Owe.o ?_ | refine Owe.mk ?_ ?_) | (refine Fork.same ?_; (first | refine fkD ?_ ?_ | refine fkN ?_ ?_ | refine fkM ?_ ?_) <;> intro h) | refine MvQ.stay ?_)
              refine again (j + 1) [] hlt (by omega) ?_
              (refine qis ?_ ?_ <;> (repeat' first | exact rfl | (refine qS ?_; constructor)))
              · rw [hjl, hjl]
              · refine ⟨orI ((stJ w (l.getD k ryd) (stK (w, g, l) wo k) j).getD (cellN w ((crS (l.getD k ryd)).getD j (0, 0))) 0) 1, rfl, ?_⟩
                rw [hu, updS, hst]; rfl
            · have hst : stC (l.getD k ryd) ((crS (l.getD k ryd)).getD j (0, 0)) = 1 := stC_1a h
              refine Ops.yd rfl rfl rfl rfl rfl ?_
              (repeat' first | (refine Owe.same ?_; first | refine Owe.o ?_ | refine Owe.mk ?_ ?_) | (refine Fork.same ?_; (first | refine fkD ?_ ?_ | refine fkN ?_ ?_ | refine fkM ?_ ?_) <;> intro h) | refine MvQ.stay ?_)
              refine And.intro rfl (Exists.intro _ (And.intro rfl ?_))
              (repeat' first | (refine Owe.same ?_; first | refine Owe.o ?_ | refine Owe.mk ?_ ?_) | (refine Fork.same ?_; (first | refine fkD ?_ ?_ | refine fkN ?_ ?_ | refine fkM ?_ ?_) <;> intro h) | refine MvQ.stay ?_)
              refine Exists.intro _ (Exists.intro _ (Exists.intro _ (And.intro rfl ?_)))
              (repeat' first | (refine Owe.same ?_; first | refine Owe.o ?_ | refine Owe.mk ?_ ?_) | (refine Fork.same ?_; (first | refine fkD ?_ ?_ | refine fkN ?_ ?_ | refine fkM ?_ ?_) <;> intro h) | refine MvQ.stay ?_)
              refine again (j + 1) [] hlt (by omega) ?_
              (refine qis ?_ ?_ <;> (repeat' first | exact rfl | (refine qS ?_; constructor)))
              · rw [hjl, hjl]
              · refine ⟨orI ((stJ w (l.getD k ryd) (stK (w, g, l) wo k) j).getD (cellN w ((crS (l.getD k ryd)).getD j (0, 0))) 0) 1, rfl, ?_⟩
                rw [hu, updS, hst]; rfl
          · (repeat' first | (refine Owe.same ?_; first | refine Owe.o ?_ | refine Owe.mk ?_ ?_) | (refine Fork.same ?_; (first | refine fkD ?_ ?_ | refine fkN ?_ ?_ | refine fkM ?_ ?_) <;> intro h) | refine MvQ.stay ?_)
            have : j = (crS (l.getD k ryd)).length := by omega
            subst this
            refine again (k + 1) [0, 1] (by omega) (by omega) ?_
            simp only [e, ← stJ_all]
            (refine qis ?_ ?_ <;> (repeat' first | exact rfl | (refine qS ?_; constructor)))
    · (repeat' first | (refine Owe.same ?_; first | refine Owe.o ?_ | refine Owe.mk ?_ ?_) | (refine Fork.same ?_; (first | refine fkD ?_ ?_ | refine fkN ?_ ?_ | refine fkM ?_ ?_) <;> intro h) | refine MvQ.stay ?_)
      have : k = l.length := by omega
      subst this
      have e : S = stK (w, g, l) wo l.length := hS
      subst e
      refine rqF 0 _ rfl rfl rfl ?_; (repeat' first | exact rfl | (refine qS ?_; constructor))
end Go.Pw

set_option linter.unusedSimpArgs false
namespace Go.Pw
set_option maxRecDepth 2000
open Go Go.Proofs A1 A2 A3 A4
theorem scE_ok {s : Sc} : (scE s).2 = 0 ↔ gridE s.1 s.2.1 s.2.2.length = 0 ∧ ∀ r ∈ s.2.2, ryOk r s.1 s.2.1 := by
  rw [scE]
  split
  · rename_i h
    rw [eachE_ok]
    constructor
    · intro h1; exact ⟨h, fun r hr => (unl0 (by decide)).1 (h1 r hr)⟩
    · intro h1 r hr; exact (unl0 (by decide)).2 (h1.2 r hr)
  · rename_i h
    constructor
    · intro h1; exact absurd h1 h
    · intro h1; exact absurd h1.1 h
theorem scE_sc {s : Sc} (h : (scE s).2 = 0) : ScOk s := by
  obtain ⟨h1, h2⟩ := scE_ok.1 h
  have := gridE_ok.1 h1
  exact ⟨this.1.1, this.1.2, by omega, fun i hi => h2 _ (getD_mem _ hi)⟩
theorem C35 {s : Sc} : s.2.2.length ≤ 1000000 → PFD Try.prog 35 [scv s] (.tup [.c (ints (if (scE s).2 = 0 then stS s [] else [])), vi .i64 (scE s).2]) := fun hl => by
  by_cases h0 : (scE s).2 = 0
  · rw [if_pos h0]
    have hO := scE_sc h0
    have c71 := C71 (s := s) (wo := []) ⟨hO, by simp⟩
    obtain ⟨S, hS⟩ : ∃ S, S = stS s [] := ⟨_, rfl⟩
    rw [← hS] at c71 ⊢
    refine pi2 fn35 ?_
    (repeat' first | (refine Owe.same ?_; first | refine Owe.o ?_ | refine Owe.mk ?_ ?_) | (refine Fork.same ?_; (first | refine fkD ?_ ?_ | refine fkN ?_ ?_ | refine fkM ?_ ?_) <;> intro h) | ((first | refine OpsL.same ?_ | refine OpsDL.same ?_); first | refine pK (C67 hl) rfl rfl ?_ | refine pK c71 rfl rfl ?_) | refine MvQ.stay ?_)
    · exact absurd h0 h
    · (refine rqK rfl ?_; (repeat' first | exact rfl | (refine qS ?_; constructor)))
      exact h0.symm
  · rw [if_neg h0]
    refine pi2 fn35 ?_
    (repeat' first | (refine Owe.same ?_; first | refine Owe.o ?_ | refine Owe.mk ?_ ?_) | (refine Fork.same ?_; (first | refine fkD ?_ ?_ | refine fkN ?_ ?_ | refine fkM ?_ ?_) <;> intro h) | ((first | refine OpsL.same ?_ | refine OpsDL.same ?_); first | refine pK (C67 hl) rfl rfl ?_) | refine MvQ.stay ?_)
    · (refine rqK rfl ?_; (repeat' first | exact rfl | (refine qS ?_; constructor)))
    · exact absurd h h0
def odC (s : Sc) (t : List Int) : Int × Bool := ((t.length : Int), !decide ((3 : Int) ∈ stS s t))
theorem C69 {s : Sc} {t : List Int} : (ScOk s ∧ t.length ≤ 1000000) → PFD Try.prog 69 [.c (ints t), .c (.rp (scD s))] (.tup [vi .i64 (odC s t).1, vbl (odC s t).2]) := fun ⟨hO, ht⟩ => by
  have c71 := C71 (s := s) (wo := t) ⟨hO, ht⟩
  have hl : (stS s t).length ≤ 144 := by
    rw [stS, stK_len]
    have h2 : s.1 * s.2.1 ≤ 12 * 12 := Int.mul_le_mul hO.w.2 hO.h.2 (by have := hO.h; omega) (by decide)
    omega
  rw [odC]
  generalize stS s t = S at *
  refine pi2 fn69 ?_
  (repeat' first | (refine Owe.same ?_; first | refine Owe.o ?_ | refine Owe.mk ?_ ?_) | (refine Fork.same ?_; (first | refine fkD ?_ ?_ | refine fkN ?_ ?_ | refine fkM ?_ ?_) <;> intro h) | ((first | refine OpsL.same ?_ | refine OpsDL.same ?_); first | refine pK c71 rfl rfl ?_ | refine pK C70 rfl rfl ?_) | refine MvQ.stay ?_)
  (refine rqK rfl ?_; (repeat' first | exact rfl | (refine qS ?_; constructor)))
theorem C30 {s : Sc} : s.2.2.length ≤ 1000000 → PFD Try.prog 30 [scv s] (.tup [.c (ints (if (scE s).2 = 0 then (bestK (odC s) s.2.2.length (2 ^ s.2.2.length)).l else [])), vi .i64 (scE s).2]) := fun hl => by
  by_cases h0 : (scE s).2 = 0
  · rw [if_pos h0]
    have hO := scE_sc h0
    have c68 := C68 (g := 69) (rows := [scD s]) (c := odC s) (n := s.2.2.length) (fun t ht _ => C69 ⟨hO, ht⟩) (by have := hO.n; omega)
    generalize bestK (odC s) s.2.2.length (2 ^ s.2.2.length) = B at *
    refine pi2 fn30 ?_
    (repeat' first | (refine Owe.same ?_; first | refine Owe.o ?_ | refine Owe.mk ?_ ?_) | (refine Fork.same ?_; (first | refine fkD ?_ ?_ | refine fkN ?_ ?_ | refine fkM ?_ ?_) <;> intro h) | ((first | refine OpsL.same ?_ | refine OpsDL.same ?_); first | refine pK (C67 hl) rfl rfl ?_ | refine pK c68 rfl rfl ?_) | refine MvQ.stay ?_)
    · exact absurd h0 h
    · (refine rqK rfl ?_; (repeat' first | exact rfl | (refine qS ?_; constructor)))
      exact h0.symm
  · rw [if_neg h0]
    refine pi2 fn30 ?_
    (repeat' first | (refine Owe.same ?_; first | refine Owe.o ?_ | refine Owe.mk ?_ ?_) | (refine Fork.same ?_; (first | refine fkD ?_ ?_ | refine fkN ?_ ?_ | refine fkM ?_ ?_) <;> intro h) | ((first | refine OpsL.same ?_ | refine OpsDL.same ?_); first | refine pK (C67 hl) rfl rfl ?_) | refine MvQ.stay ?_)
    · (refine rqK rfl ?_; (repeat' first | exact rfl | (refine qS ?_; constructor)))
    · exact absurd h h0
end Go.Pw

set_option linter.unusedSimpArgs false
namespace Go.Pw
set_option maxRecDepth 2000
open Go Go.Proofs A1 A2 A3 A4
abbrev Vw := Ry × Int
abbrev vwd : Vw := (ryd, 0)
abbrev r6 (v : Vw) : List D := [dI v.1.1.1, dI v.1.1.2, dI v.1.2.1.1, dI v.1.2.1.2, .v (.bool v.1.2.2), dI v.2]
abbrev vws (l : List Vw) : C := slv 6 r6 vwd l
abbrev Se := Int × Int × List Vw × List Int
abbrev sev (x : Se) : V := .agg [int x.1, int x.2.1, vws x.2.2.1, ints x.2.2.2]
abbrev seb (x : Se) : List C := [int x.1, int x.2.1, vws x.2.2.1, ints x.2.2.2]
/-- The error of a view. -/
def vwE (w h : Int) (v : Vw) : Int := fstE [unl (ryOk v.1 w h) 6, unl (0 ≤ v.2 ∧ v.2 ≤ 1000) 2]
/-- The error of a wanted cell, after another one. -/
def wnE (m last x : Int) : Int := fstE [unl (0 ≤ x ∧ x ≤ m - 1) 6, unl (last < x) 9]
def eachW (m : Int) : Int → Nat → List Int → Int × Int
  | _, _, [] => (0, 0)
  | last, k, x :: l => if wnE m last x = 0 then eachW m x (k + 1) l else ((k : Int), wnE m last x)
theorem eachW_drop (m last : Int) (l : List Int) (k : Nat) (h : k < l.length) : eachW m last k (l.drop k) = if wnE m last (l.getD k 0) = 0 then eachW m (l.getD k 0) (k + 1) (l.drop (k + 1)) else ((k : Int), wnE m last (l.getD k 0)) := by
  have e : l.drop k = l.getD k 0 :: l.drop (k + 1) := by
    rw [List.getD_eq_getElem?_getD, List.getElem?_eq_getElem h]; exact List.drop_eq_getElem_cons h
  rw [e, eachW]
/-- The error of a search, with an index. -/
def seE (x : Se) : Int × Int := if gridE x.1 x.2.1 x.2.2.1.length = 0 then (if (eachE (vwE x.1 x.2.1) 0 x.2.2.1).2 = 0 then eachW (x.1 * x.2.1) (-1) 0 x.2.2.2 else eachE (vwE x.1 x.2.1) 0 x.2.2.1) else (0, gridE x.1 x.2.1 x.2.2.1.length)
theorem vwE_of {w g : Int} {v : Vw} {e : Int} (h : ¬ fstE [unl (ryOk v.1 w g) 6, e] = 0) (he : e = unl (0 ≤ v.2 ∧ v.2 ≤ 1000) 2) : ¬ vwE w g v = 0 := by subst he; exact h
theorem C76 {x : Se} : (x.2.2.1.length ≤ 1000000 ∧ x.2.2.2.length ≤ 1000000) → PFD Try.prog 76 [sev x] (.tup [vi .i64 (seE x).1, vi .i64 (seE x).2]) := fun ⟨hl, hm⟩ => by
  obtain ⟨w, g, l, m⟩ := x
  simp only at hl hm
  refine pi2 fn76 ?_
  (repeat' first | (refine Owe.same ?_; first | refine Owe.o ?_ | refine Owe.mk ?_ ?_) | (refine Fork.same ?_; (first | refine fkD ?_ ?_ | refine fkN ?_ ?_ | refine fkM ?_ ?_) <;> intro h) | ((first | refine OpsL.same ?_ | refine OpsDL.same ?_); first | refine pK C101 rfl rfl ?_) | refine MvQ.stay ?_)
  · have h : ¬ gridE w g l.length = 0 := h
    (refine rqK rfl ?_; (repeat' first | exact rfl | (refine qS ?_; constructor))) <;> rw [seE, if_neg h]
  have h : gridE w g l.length = 0 := h
  have hb := gridE_ok.1 h
  have hr : seE (w, g, l, m) = if (eachE (vwE w g) 0 l).2 = 0 then eachW (w * g) (-1) 0 m else eachE (vwE w g) 0 l := by rw [seE, if_pos h]
  rw [hr]
  obtain ⟨E, hE⟩ : ∃ E, E = eachE (vwE w g) 0 l := ⟨_, rfl⟩
  rw [← hE]
  refine Ops.cs rfl rfl (CallS.of fn102 rfl ?_)
  (repeat' first | (refine Owe.same ?_; first | refine Owe.o ?_ | refine Owe.mk ?_ ?_) | (refine Fork.same ?_; (first | refine fkD ?_ ?_ | refine fkN ?_ ?_ | refine fkM ?_ ?_) <;> intro h) | refine MvQ.stay ?_)
  refine Sat.lp (fun k : Nat => ⟨[(11, vi .i64 k), (10, vi .i64 l.length), (9, .c (vws l)), (1, .c (.fn 103 [0]))], [(0, .box (seb (w, g, l, m)))], 1⟩) (fun k => k ≤ l.length ∧ E = eachE (vwE w g) k (l.drop k)) (fun k => l.length - k) 0 [] ⟨Nat.zero_le _, hE⟩ ?_ ?_
  · (refine qis ?_ ?_ <;> (repeat' first | exact rfl | (refine qS ?_; constructor)))
  · intro k hk
    refine Fork.dec (fun hlt => ?_) (fun hlt => ?_)
    · have hlt : k < l.length := by omega
      have e := eachE_drop (vwE w g) vwd l k hlt
      (repeat' first | (refine Owe.same ?_; first | refine Owe.o ?_ | refine Owe.mk ?_ ?_) | (refine Fork.same ?_; (first | refine fkD ?_ ?_ | refine fkN ?_ ?_ | refine fkM ?_ ?_) <;> intro h) | refine MvQ.stay ?_)
      refine Ops.cs rfl rfl (CallS.of fn103 rfl ?_)
      have c43 := C43 (r := (l.getD k vwd).1) (w := w) (g := g) ⟨by omega, by omega⟩
      (repeat' first | (refine Owe.same ?_; first | refine Owe.o ?_ | refine Owe.mk ?_ ?_) | (refine Fork.same ?_; (first | refine fkD ?_ ?_ | refine fkN ?_ ?_ | refine fkM ?_ ?_) <;> intro h) | ((first | refine OpsL.same ?_ | refine OpsDL.same ?_); first | refine pK c43 rfl rfl ?_ | refine pK C50 rfl rfl ?_ | refine pK C49 rfl rfl ?_ | refine pK C47 rfl rfl ?_) | refine MvQ.stay ?_)
      · have h9 := vwE_of h rfl
        have h9 : ¬ vwE w g (l.getD k vwd) = 0 := h9
        rw [if_neg h9, ← hk.2] at e
        have hE2 : ¬ E.2 = 0 := by rw [e]; exact h9
        (refine rqK rfl ?_; (repeat' first | exact rfl | (refine qS ?_; constructor)))
        · rw [if_neg hE2, e]
        · rw [if_neg hE2, e]; rfl
      · rename_i h1
        exact absurd h h1
      · have h9 : vwE w g (l.getD k vwd) = 0 := h
        rw [if_pos h9, ← hk.2] at e
        refine again (k + 1) [] ⟨hlt, e⟩ (by omega) ?_
        (refine qis ?_ ?_ <;> (repeat' first | exact rfl | (refine qS ?_; constructor)))
    · (repeat' first | (refine Owe.same ?_; first | refine Owe.o ?_ | refine Owe.mk ?_ ?_) | (refine Fork.same ?_; (first | refine fkD ?_ ?_ | refine fkN ?_ ?_ | refine fkM ?_ ?_) <;> intro h) | refine MvQ.stay ?_)
      · exact absurd rfl h
      · have : k = l.length := by omega
        subst this
        have e : E = (0, 0) := by rw [hk.2, List.drop_of_length_le (Nat.le_refl _)]; rfl
        rw [e, if_pos rfl]
        (repeat' first | (refine Owe.same ?_; first | refine Owe.o ?_ | refine Owe.mk ?_ ?_) | (refine Fork.same ?_; (first | refine fkD ?_ ?_ | refine fkN ?_ ?_ | refine fkM ?_ ?_) <;> intro h) | refine MvQ.stay ?_)
        obtain ⟨q, hq⟩ : ∃ q, q = eachW (w * g) (-1) 0 m := ⟨_, rfl⟩
        rw [← hq]
        have mwg : 1 ≤ w * g ∧ w * g ≤ 144 := by
          have h1 : (1 : Int) * 1 ≤ w * g := Int.mul_le_mul hb.1.1.1 hb.1.2.1 (by decide) (by omega)
          have h2 : w * g ≤ 12 * 12 := Int.mul_le_mul hb.1.1.2 hb.1.2.2 (by omega) (by decide)
          omega
        refine Ops.cs rfl rfl (CallS.of fn104 rfl ?_)
        (repeat' first | (refine Owe.same ?_; first | refine Owe.o ?_ | refine Owe.mk ?_ ?_) | (refine Fork.same ?_; (first | refine fkD ?_ ?_ | refine fkN ?_ ?_ | refine fkM ?_ ?_) <;> intro h) | refine MvQ.stay ?_)
        refine Sat.lp (fun k : Nat => ⟨[(11, vi .i64 k), (10, vi .i64 m.length), (9, .c (ints m)), (1, .c (.fn 105 [0, 1]))], [(1, .box [int (if k = 0 then -1 else m.getD (k - 1) 0)]), (0, .box (seb (w, g, l, m)))], 2⟩) (fun k => k ≤ m.length ∧ q = eachW (w * g) (if k = 0 then -1 else m.getD (k - 1) 0) k (m.drop k)) (fun k => m.length - k) 0 [] ⟨Nat.zero_le _, hq⟩ ?_ ?_
        · (refine qis ?_ ?_ <;> (repeat' first | exact rfl | (refine qS ?_; constructor)))
        · intro k hk
          refine Fork.dec (fun hlt => ?_) (fun hlt => ?_)
          · have hlt : k < m.length := by omega
            obtain ⟨last, hla⟩ : ∃ x, x = if k = 0 then -1 else m.getD (k - 1) 0 := ⟨_, rfl⟩
            rw [← hla] at hk ⊢
            have e := eachW_drop (w * g) last m k hlt
            (repeat' first | (refine Owe.same ?_; first | refine Owe.o ?_ | refine Owe.mk ?_ ?_) | (refine Fork.same ?_; (first | refine fkD ?_ ?_ | refine fkN ?_ ?_ | refine fkM ?_ ?_) <;> intro h) | refine MvQ.stay ?_)
            refine Ops.cs rfl rfl (CallS.of fn105 rfl ?_)
            (repeat' first | (refine Owe.same ?_; first | refine Owe.o ?_ | refine Owe.mk ?_ ?_) | (refine Fork.same ?_; (first | refine fkD ?_ ?_ | refine fkN ?_ ?_ | refine fkM ?_ ?_) <;> intro h) | ((first | refine OpsL.same ?_ | refine OpsDL.same ?_); first | refine pK C50 rfl rfl ?_ | refine pK C49 rfl rfl ?_ | refine pK C47 rfl rfl ?_) | refine MvQ.stay ?_)
            · have h : ¬ wnE (w * g) last (m.getD k 0) = 0 := h
              rw [if_neg h, ← hk.2] at e
              (refine rqK rfl ?_; (repeat' first | exact rfl | (refine qS ?_; constructor)))
              · rw [e]
              · rw [e]; rfl
            · have h : wnE (w * g) last (m.getD k 0) = 0 := h
              rw [if_pos h, ← hk.2] at e
              refine again (k + 1) [] ⟨hlt, ?_⟩ (by omega) ?_
              · rw [if_neg (by omega)]; exact e
              · (refine qis ?_ ?_ <;> (repeat' first | exact rfl | (refine qS ?_; constructor)))
          · (repeat' first | (refine Owe.same ?_; first | refine Owe.o ?_ | refine Owe.mk ?_ ?_) | (refine Fork.same ?_; (first | refine fkD ?_ ?_ | refine fkN ?_ ?_ | refine fkM ?_ ?_) <;> intro h) | refine MvQ.stay ?_)
            have : k = m.length := by omega
            subst this
            have e : q = (0, 0) := by rw [hk.2, List.drop_of_length_le (Nat.le_refl _)]; rfl
            subst e
            (refine rqK rfl ?_; (repeat' first | exact rfl | (refine qS ?_; constructor)))
end Go.Pw

set_option linter.unusedSimpArgs false
namespace Go.Pw
set_option maxRecDepth 2000
open Go Go.Proofs A1 A2 A3 A4
theorem C124 {n : Int} : PFD Try.prog 124 [vi .i64 n] (vbl false) := by
  refine pi1 fn124 ?_
  (repeat' first | (refine Owe.same ?_; first | refine Owe.o ?_ | refine Owe.mk ?_ ?_) | (refine Fork.same ?_; (first | refine fkD ?_ ?_ | refine fkN ?_ ?_ | refine fkM ?_ ?_) <;> intro h) | refine MvQ.stay ?_)
  (refine rqK rfl ?_; (repeat' first | exact rfl | (refine qS ?_; constructor)))
  simp
/-- Where a number is, or would be. -/
def bsN (x : Int) (l : List Int) : Nat := (l.takeWhile fun y => decide (y < x)).length
/-- Ascending numbers. -/
abbrev srt (l : List Int) : Prop := ∀ i j, i < j → j < l.length → l.getD i 0 < l.getD j 0
theorem bsN_eq {x : Int} : ∀ {l : List Int} {i : Nat}, i ≤ l.length → (∀ t, t < i → l.getD t 0 < x) → (i < l.length → x ≤ l.getD i 0) → bsN x l = i
  | [], i, h, _, _ => by simp at h; subst h; rfl
  | y :: l, 0, _, _, h => by
    have := h (by simp)
    have : ¬ y < x := by simp at this; omega
    simp [bsN, List.takeWhile_cons, this]
  | y :: l, i + 1, h, h1, h2 => by
    have h3 := h1 0 (by omega)
    have h3 : y < x := by simpa using h3
    have ih := bsN_eq (x := x) (l := l) (i := i) (by simpa using h) (fun t ht => by have := h1 (t + 1) (by omega); simpa using this) (fun hi => by have := h2 (by simpa using hi); simpa using this)
    rw [bsN] at ih
    simp [bsN, List.takeWhile_cons, h3, ih]
theorem half_eq {i j : Nat} (h : i + j < 4611686018427387904) : (IntKind.u64.wrap ((i : Int) + j)).fdiv (2 ^ min (Int.toNat 1) IntKind.u64.bits) = (((i + j) / 2 : Nat) : Int) := by
  have e : (2 : Int) ^ min (Int.toNat 1) IntKind.u64.bits = 2 := by decide
  rw [u64_wrap, e, Int.fdiv_eq_ediv_of_nonneg _ (by decide)]
  omega
theorem C106 {l : List Int} {x : Int} : (l.length ≤ 1000000 ∧ srt l) → PFD Try.prog 106 [.c (ints l), vi .i64 x] (.tup [vi .i64 (bsN x l), vbl (decide (bsN x l < l.length ∧ l.getD (bsN x l) 0 = x))]) := fun ⟨hl, hs⟩ => by
  obtain ⟨b, hb⟩ : ∃ b, b = bsN x l := ⟨_, rfl⟩
  rw [← hb]
  refine pi2 fn106 ?_
  (repeat' first | (refine Owe.same ?_; first | refine Owe.o ?_ | refine Owe.mk ?_ ?_) | (refine Fork.same ?_; (first | refine fkD ?_ ?_ | refine fkN ?_ ?_ | refine fkM ?_ ?_) <;> intro h) | refine MvQ.stay ?_)
  refine Sat.lp0 (fun p : Nat × Nat => [(7, vi .i64 p.1), (8, vi .i64 p.2), (6, vi .i64 l.length), (0, .c (ints l)), (1, vi .i64 x)]) (fun p => (p.1 ≤ p.2 ∧ p.2 ≤ l.length) ∧ (∀ t, t < p.1 → l.getD t 0 < x) ∧ ∀ t, p.2 ≤ t → t < l.length → x ≤ l.getD t 0) (fun p => p.2 - p.1) (0, l.length) ⟨⟨Nat.zero_le _, Nat.le_refl _⟩, fun t h => absurd h (by omega), fun t h1 h2 => absurd h1 (by omega)⟩ (by ((first | refine qen ?_ | refine qvs ?_ | refine qeq ?_ | refine qst ?_ | refine qv ?_ | refine qc ?_ | refine qe ?_ | refine qcs ?_ | skip); (repeat' first | exact rfl | (refine qS ?_; constructor)))) ?_
  intro p hp
  obtain ⟨⟨h1, h2⟩, h3, h4⟩ := hp
  have hm := half_eq (i := p.1) (j := p.2) (by omega)
  refine Fork.dec (fun hlt => ?_) (fun hlt => ?_)
  · have hlt : p.1 < p.2 := by omega
    (repeat' first | (refine Owe.same ?_; first | refine Owe.o ?_ | refine Owe.mk ?_ ?_) | (refine Fork.same ?_; (first | refine fkD ?_ ?_ | refine fkN ?_ ?_ | refine fkM ?_ ?_) <;> intro h) | ((first | refine OpsL.same ?_ | refine OpsDL.same ?_); first | refine pK C123 rfl rfl ?_) | refine MvQ.stay ?_)
    · rw [hm] at h ⊢
      have h : l.getD ((p.1 + p.2) / 2) 0 < x := h
      refine again0 ((p.1 + p.2) / 2 + 1, p.2) ⟨by omega, fun t ht => ?_, h4⟩ (by omega) (by ((first | refine qen ?_ | refine qvs ?_ | refine qeq ?_ | refine qst ?_ | refine qv ?_ | refine qc ?_ | refine qe ?_ | refine qcs ?_ | skip); (repeat' first | exact rfl | (refine qS ?_; constructor))))
      rcases Nat.lt_or_eq_of_le (show t ≤ (p.1 + p.2) / 2 by omega) with h5 | h5
      · exact Int.lt_trans (hs t _ h5 (by omega)) h
      · rw [h5]; exact h
    · rw [hm] at h ⊢
      have h : ¬ l.getD ((p.1 + p.2) / 2) 0 < x := h
      (repeat' first | (refine Owe.same ?_; first | refine Owe.o ?_ | refine Owe.mk ?_ ?_) | (refine Fork.same ?_; (first | refine fkD ?_ ?_ | refine fkN ?_ ?_ | refine fkM ?_ ?_) <;> intro h) | refine MvQ.stay ?_)
      refine again0 (p.1, (p.1 + p.2) / 2) ⟨by omega, h3, fun t h5 h6 => ?_⟩ (by simp only; omega) (by ((first | refine qen ?_ | refine qvs ?_ | refine qeq ?_ | refine qst ?_ | refine qv ?_ | refine qc ?_ | refine qe ?_ | refine qcs ?_ | skip); (repeat' first | exact rfl | (refine qS ?_; constructor))))
      rcases Nat.lt_or_eq_of_le h5 with h7 | h7
      · have := hs _ t h7 h6; simp only at this; omega
      · rw [← h7]; simp only; omega
  · have e : p.1 = p.2 := by omega
    have hbe : b = p.1 := hb.trans (bsN_eq (by omega) h3 fun h => h4 _ (by omega) h)
    rw [hbe]
    (repeat' first | (refine Owe.same ?_; first | refine Owe.o ?_ | refine Owe.mk ?_ ?_) | (refine Fork.same ?_; (first | refine fkD ?_ ?_ | refine fkN ?_ ?_ | refine fkM ?_ ?_) <;> intro h) | ((first | refine OpsL.same ?_ | refine OpsDL.same ?_); first | refine pK C124 rfl rfl ?_) | refine MvQ.stay ?_)
    · have h : l.getD p.1 0 = x := h
      rename_i h9
      have h9 : p.1 < l.length := by omega
      (refine rqK rfl ?_; (repeat' first | exact rfl | (refine qS ?_; constructor)))
      rw [decide_eq_true ⟨h9, h⟩]
    · exact absurd h (by decide)
    · rename_i h9 h8
      have h8 : ¬ l.getD p.1 0 = x := h8
      (refine rqK rfl ?_; (repeat' first | exact rfl | (refine qS ?_; constructor)))
      rw [decide_eq_false fun hh => h8 hh.2]
    · have h9 : ¬ p.1 < l.length := by omega
      (refine rqK rfl ?_; (repeat' first | exact rfl | (refine qS ?_; constructor)))
      rw [decide_eq_false fun hh => h9 hh.1]
end Go.Pw

set_option linter.unusedVariables false
set_option maxHeartbeats 2000000
set_option maxRecDepth 100000
namespace Go.Pw
open Go Go.Proofs
/-- moonpool/sonar.CoverOf -/
def lc40u : LCode :=
  (.seq (.region [⟨some 1, .box (.tmp 0), none⟩, ⟨some 2, .mv (.const (.slice none 0 0)), none⟩, ⟨some 3, .mv (.const (.int .i64 0)), none⟩, ⟨some 4, .mv (.const (.int .i64 0)),
    none⟩]) (.seq (.seq (.region [⟨some 12, .load true 4 (.tmp 1), none⟩, ⟨some 13, .call (.func 76) [(.tmp 12)], none⟩, ⟨some 11, .mv (.tmp 13), none⟩, ⟨some 14, .ext (.tmp 11) 0,
    none⟩, ⟨some 15, .ext (.tmp 11) 1, none⟩, ⟨some 5, .mv (.tmp 14), none⟩, ⟨some 6, .mv (.tmp 15), none⟩]) (.seq (.region [⟨some 16, .mv (.tmp 6), none⟩, ⟨some 17, .bin .neq (.tmp
    16) (.const (.int .i64 0)), none⟩]) (.cond (.tmp 17) (.seq (.region [⟨some 18, .mv (.tmp 6), none⟩, ⟨some 2, .mv (.const (.slice none 0 0)), none⟩, ⟨some 3, .mv (.const (.int
    .i64 0)), none⟩, ⟨some 4, .mv (.tmp 18), none⟩]) .ret) .skip))) (.seq (.region [⟨some 19, .load true 4 (.tmp 1), none⟩, ⟨some 20, .call (.func 77) [(.tmp 19)], none⟩, ⟨some 7,
    .alloc [(.slice none 0 0)], none⟩, ⟨none, .store 1 (.tmp 7) (.tmp 20), none⟩]) (.seq (.stop (.region [⟨some 22, .fld 2 (.tmp 1), none⟩, ⟨some 23, .load false 1 (.tmp 22), none⟩,
    ⟨some 24, .len (.tmp 23), none⟩, ⟨some 25, .mkfn 78 [(.tmp 1), (.tmp 7)], none⟩, ⟨some 26, .call (.func 68) [(.tmp 24), (.tmp 25)], none⟩, ⟨some 21, .mv (.tmp 26), none⟩, ⟨some
    27, .ext (.tmp 21) 0, none⟩, ⟨some 28, .ext (.tmp 21) 1, none⟩, ⟨some 29, .ext (.tmp 21) 2, none⟩, ⟨some 8, .mv (.tmp 27), none⟩, ⟨some 9, .mv (.tmp 28), none⟩, ⟨some 10, .mv
    (.tmp 29), none⟩])) (.seq (.region [⟨some 30, .mv (.tmp 8), none⟩, ⟨some 31, .mv (.tmp 9), none⟩, ⟨some 32, .mv (.tmp 10), none⟩, ⟨some 33, .call (.func 49) [(.tmp 32), (.const
    (.int .i64 12))], none⟩, ⟨some 2, .mv (.tmp 30), none⟩, ⟨some 3, .mv (.tmp 31), none⟩, ⟨some 4, .mv (.tmp 33), none⟩]) .ret)))))
theorem low40u : lowF Try.prog [] Try.f40 = some (34, lc40u.strip, [.tmp 2, .tmp 3, .tmp 4]) := by kernel_rfl
theorem fn40u : FnOk Try.prog 40 34 lc40u [.tmp 2, .tmp 3, .tmp 4] := ⟨Try.call40, [], _, Try.func40, low40u⟩
end Go.Pw

set_option linter.unusedSimpArgs false
namespace Go.Pw
set_option maxRecDepth 2000
open Go Go.Proofs A1 A2 A3 A4
abbrev seD (x : Se) : List D := [dI x.1, dI x.2.1, .sl 6 x.2.2.1.length fun i => r6 (x.2.2.1.getD i vwd), .sl 1 x.2.2.2.length fun i => r1 (x.2.2.2.getD i 0)]
structure SeOk (x : Se) : Prop where
  w : 1 ≤ x.1 ∧ x.1 ≤ 12
  h : 1 ≤ x.2.1 ∧ x.2.1 ≤ 12
  n : x.2.2.1.length ≤ 10
  v : ∀ i, i < x.2.2.1.length → ryOk (x.2.2.1.getD i vwd).1 x.1 x.2.1 ∧ 0 ≤ (x.2.2.1.getD i vwd).2 ∧ (x.2.2.1.getD i vwd).2 ≤ 1000
  m : ∀ y ∈ x.2.2.2, 0 ≤ y ∧ y ≤ x.1 * x.2.1 - 1
  s : srt x.2.2.2
theorem wnE_ok {M last y : Int} : wnE M last y = 0 ↔ (0 ≤ y ∧ y ≤ M - 1) ∧ last < y := by
  rw [wnE, fst2, unl0 (by decide), unl0 (by decide)]
theorem vwE_ok {w h : Int} {v : Vw} : vwE w h v = 0 ↔ ryOk v.1 w h ∧ 0 ≤ v.2 ∧ v.2 ≤ 1000 := by
  rw [vwE, fst2, unl0 (by decide), unl0 (by decide)]
theorem eachW_ok {M : Int} : ∀ {m : List Int} {last : Int} {k : Nat}, (eachW M last k m).2 = 0 ↔ (∀ y ∈ m, last < y ∧ 0 ≤ y ∧ y ≤ M - 1) ∧ m.Pairwise (· < ·)
  | [], last, k => by simp [eachW]
  | y :: m, last, k => by
    rw [eachW]
    split
    · rename_i h
      rw [eachW_ok]
      have h1 := wnE_ok.1 h
      constructor
      · rintro ⟨h2, h3⟩
        refine ⟨fun z hz => ?_, List.pairwise_cons.2 ⟨fun z hz => (h2 z hz).1, h3⟩⟩
        rcases List.mem_cons.1 hz with rfl | hz
        · exact ⟨h1.2, h1.1⟩
        · have := h2 z hz; exact ⟨by omega, this.2⟩
      · rintro ⟨h2, h3⟩
        obtain ⟨h4, h5⟩ := List.pairwise_cons.1 h3
        exact ⟨fun z hz => ⟨h4 z hz, (h2 z (List.mem_cons_of_mem _ hz)).2⟩, h5⟩
    · rename_i h
      constructor
      · intro h1; exact absurd h1 h
      · rintro ⟨h2, _⟩
        have := h2 y (List.mem_cons_self ..)
        exact absurd (wnE_ok.2 ⟨this.2, this.1⟩) h
theorem srt_of {m : List Int} (h : m.Pairwise (· < ·)) : srt m := fun i j hij hj => by
  have := List.pairwise_iff_getElem.1 h i j (by omega) hj hij
  simpa [List.getD_eq_getElem?_getD, List.getElem?_eq_getElem, hj, show i < m.length by omega] using this
theorem of_srt {m : List Int} (h : srt m) : m.Pairwise (· < ·) := List.pairwise_iff_getElem.2 fun i j hi hj hij => by
  have := h i j hij hj
  simpa [List.getD_eq_getElem?_getD, List.getElem?_eq_getElem, hj, hi] using this
theorem seE_ok {x : Se} : (seE x).2 = 0 ↔ SeOk x := by
  rw [seE]
  constructor
  · intro h
    split at h
    · rename_i h0
      have hg := gridE_ok.1 h0
      split at h
      · rename_i h1
        have h2 := eachE_ok.1 h1
        obtain ⟨h3, h4⟩ := eachW_ok.1 h
        exact ⟨hg.1.1, hg.1.2, by omega, fun i hi => vwE_ok.1 (h2 _ (getD_mem _ hi)), fun y hy => (h3 y hy).2, srt_of h4⟩
      · rename_i h1; exact absurd h h1
    · rename_i h0; exact absurd h h0
  · intro h
    rw [if_pos (gridE_ok.2 ⟨⟨h.w, h.h⟩, by have := h.n; omega⟩), if_pos (eachE_ok.2 fun v hv => ?_)]
    · exact eachW_ok.2 ⟨fun y hy => ⟨by have := h.m y hy; omega, h.m y hy⟩, of_srt h.s⟩
    · obtain ⟨i, hi, rfl⟩ := List.getElem_of_mem hv
      have := h.v i hi
      rw [List.getD_eq_getElem?_getD, List.getElem?_eq_getElem hi] at this
      exact vwE_ok.2 this
theorem srt_len : ∀ {m : List Int} {lo hi : Int}, lo ≤ hi + 1 → m.Pairwise (· < ·) → (∀ y ∈ m, lo ≤ y ∧ y ≤ hi) → (m.length : Int) ≤ hi - lo + 1
  | [], lo, hi, hle, _, _ => by simp; omega
  | y :: m, lo, hi, hle, h, hb => by
    obtain ⟨h1, h2⟩ := List.pairwise_cons.1 h
    have h3 := hb y (List.mem_cons_self ..)
    have := srt_len (m := m) (lo := y + 1) (hi := hi) (by omega) h2 fun z hz => ⟨by have := h1 z hz; omega, (hb z (List.mem_cons_of_mem _ hz)).2⟩
    simp only [List.length_cons]; omega
theorem SeOk.wg {x : Se} (h : SeOk x) : 1 ≤ x.1 * x.2.1 ∧ x.1 * x.2.1 ≤ 144 := by
  have h1 : (1 : Int) * 1 ≤ x.1 * x.2.1 := Int.mul_le_mul h.w.1 h.h.1 (by decide) (by have := h.w; omega)
  have h2 : x.1 * x.2.1 ≤ 12 * 12 := Int.mul_le_mul h.w.2 h.h.2 (by have := h.h; omega) (by decide)
  omega
theorem SeOk.len {x : Se} (h : SeOk x) : x.2.2.2.length ≤ 144 := by
  have := srt_len (lo := 0) (hi := x.1 * x.2.1 - 1) (by have := h.wg; omega) (of_srt h.s) h.m
  have := h.wg
  omega
/-- The number of a cell. -/
abbrev celN (w : Int) (c : Cel) : Int := c.2 * w + c.1
/-- Whether a number is wanted. -/
abbrev isW (m : List Int) (n : Int) : Prop := bsN n m < m.length ∧ m.getD (bsN n m) 0 = n
/-- The indexes of the wanted cells among so many that a ray crosses. -/
def snJ (w : Int) (m : List Int) (r : Ry) : Nat → List Int
  | 0 => []
  | j + 1 => if isW m (celN w ((crS r).getD j (0, 0))) then snJ w m r j ++ [(bsN (celN w ((crS r).getD j (0, 0))) m : Int)] else snJ w m r j
theorem snJ_len (w : Int) (m : List Int) (r : Ry) : ∀ j, (snJ w m r j).length ≤ j
  | 0 => Nat.le_refl _
  | j + 1 => by
    have := snJ_len w m r j
    rw [snJ]; split
    · simp; omega
    · omega
/-- What a view sees. -/
def snR (w : Int) (m : List Int) (r : Ry) : List Int := snJ w m r (crS r).length
abbrev rL (l : List Int) : List D := [.sl 1 l.length fun i => r1 (l.getD i 0)]
abbrev rLs (L : List (List Int)) : List D := [.sl 1 L.length fun i => rL (L.getD i [])]
abbrev lls (L : List (List Int)) : C := slv 1 rL [] L
/-- What so many views see. -/
abbrev snK (x : Se) (k : Nat) : List (List Int) := accL (fun i => snR x.1 x.2.2.2 (x.2.2.1.getD i vwd).1) k
abbrev snS (x : Se) : List (List Int) := snK x x.2.2.1.length
theorem C77 {x : Se} : SeOk x → PFD Try.prog 77 [sev x] (.c (lls (snS x))) := fun hO => by
  have hm := hO.len
  obtain ⟨w, g, l, m⟩ := x
  have hw := hO.w; have hh := hO.h; have hn := hO.n
  have hs : srt m := hO.s
  simp only at hw hh hn hm
  obtain ⟨S, hS⟩ : ∃ S, S = snS (w, g, l, m) := ⟨_, rfl⟩
  rw [← hS]
  refine pi1 fn77 ?_
  (repeat' first | (refine Owe.same ?_; first | refine Owe.o ?_ | refine Owe.mk ?_ ?_) | (refine Fork.same ?_; (first | refine fkD ?_ ?_ | refine fkN ?_ ?_ | refine fkM ?_ ?_) <;> intro h) | refine MvQ.stay ?_)
  refine Sat.nilS 3 43 1 (fun i => rL (([] : List (List Int)).getD i [])) rfl ?_
  refine Sat.lp (fun k : Nat => ⟨[(14, vi .i64 k), (13, vi .i64 l.length), (12, .c (vws l)), (1, .c (.rp (seD (w, g, l, m)))), (3, .c (.ms 0 (snK (w, g, l, m) k).length))], [(0, rowv 43 1 rL [] (snK (w, g, l, m) k))], 1⟩)
    (fun k => k ≤ l.length) (fun k => l.length - k) 0 [0] (Nat.zero_le _) ?_ ?_
  · (refine qis ?_ ?_ <;> (repeat' first | exact rfl | (refine qS ?_; constructor)))
  · intro k hk
    have hkl : (snK (w, g, l, m) k).length = k := accL_len _ k
    have hks := accL_succ (fun i => snR w m (l.getD i vwd).1) k
    refine Fork.dec (fun hlt => ?_) (fun hlt => ?_)
    · have hltk : k < l.length := by omega
      have hr := (hO.v k hltk).1
      simp only at hr
      have hr12 : ryOk (l.getD k vwd).1 12 12 := by simp only [ryOk, inG] at hr ⊢; omega
      have c44 := C44 hr12
      have hin : ∀ c ∈ crS (l.getD k vwd).1, inG c w g := fun c hc => crS_in hr hc
      have hcl : (crS (l.getD k vwd).1).length ≤ 12 * 12 := by
        have h1 := wn_le hr12
        have h2 := hn_le hr12
        exact Nat.le_trans crS_len (Nat.mul_le_mul (by omega) (by omega))
      (repeat' first | (refine Owe.same ?_; first | refine Owe.o ?_ | refine Owe.mk ?_ ?_) | (refine Fork.same ?_; (first | refine fkD ?_ ?_ | refine fkN ?_ ?_ | refine fkM ?_ ?_) <;> intro h) | ((first | refine OpsL.same ?_ | refine OpsDL.same ?_); first | refine pK c44 rfl rfl ?_) | refine MvQ.stay ?_)
      refine Sat.nilS 6 3 1 (fun i => r1 (([] : List Int).getD i 0)) rfl ?_
      refine Sat.lp (fun j : Nat => ⟨[(22, vi .i64 j), (21, vi .i64 (crS (l.getD k vwd).1).length), (20, .c (prs (crS (l.getD k vwd).1))), (1, .c (.rp (seD (w, g, l, m)))), (6, .c (.ms 1 (snJ w m (l.getD k vwd).1 j).length)),
          (14, vi .i64 k), (13, vi .i64 l.length), (12, .c (vws l)), (3, .c (.ms 0 (snK (w, g, l, m) k).length))], [(0, rowv 43 1 rL [] (snK (w, g, l, m) k)), (1, rowv 3 1 r1 0 (snJ w m (l.getD k vwd).1 j))], 2⟩)
        (fun j => j ≤ (crS (l.getD k vwd).1).length) (fun j => (crS (l.getD k vwd).1).length - j) 0 [0, 2] (Nat.zero_le _) ?_ ?_
      · (refine qis ?_ ?_ <;> (repeat' first | exact rfl | (refine qS ?_; constructor)))
      · intro j hj
        have hjl := snJ_len w m (l.getD k vwd).1 j
        refine Fork.dec (fun hlt => ?_) (fun hlt => ?_)
        · have hlt : j < (crS (l.getD k vwd).1).length := by omega
          have hc := hin _ (getD_mem (0, 0) hlt)
          simp only [inG] at hc
          have c106 := C106 (l := m) (x := celN w ((crS (l.getD k vwd).1).getD j (0, 0))) ⟨by omega, hs⟩
          (repeat' first | (refine Owe.same ?_; first | refine Owe.o ?_ | refine Owe.mk ?_ ?_) | (refine Fork.same ?_; (first | refine fkD ?_ ?_ | refine fkN ?_ ?_ | refine fkM ?_ ?_) <;> intro h) | ((first | refine OpsL.same ?_ | refine OpsDL.same ?_); first | refine pK C107 rfl rfl ?_ | refine pK c106 rfl rfl ?_) | refine MvQ.stay ?_)
          · have h : isW m (celN w ((crS (l.getD k vwd).1).getD j (0, 0))) := h
            have e : snJ w m (l.getD k vwd).1 (j + 1) = snJ w m (l.getD k vwd).1 j ++ [(bsN (celN w ((crS (l.getD k vwd).1).getD j (0, 0))) m : Int)] := by rw [snJ, if_pos h]
            refine again (j + 1) [0, 13] hlt (by omega) ?_
            (refine qis ?_ ?_ <;> (repeat' first | exact rfl | (refine qS ?_; constructor)))
            · rw [e]; simp
            · exact e
          · have h : ¬ isW m (celN w ((crS (l.getD k vwd).1).getD j (0, 0))) := h
            have e : snJ w m (l.getD k vwd).1 (j + 1) = snJ w m (l.getD k vwd).1 j := by rw [snJ, if_neg h]
            refine again (j + 1) [0, 1] hlt (by omega) ?_
            (refine qis ?_ ?_ <;> (repeat' first | exact rfl | (refine qS ?_; constructor)))
            · rw [e]
            · rw [e]
        · have : j = (crS (l.getD k vwd).1).length := by omega
          subst this
          (repeat' first | (refine Owe.same ?_; first | refine Owe.o ?_ | refine Owe.mk ?_ ?_) | (refine Fork.same ?_; (first | refine fkD ?_ ?_ | refine fkN ?_ ?_ | refine fkM ?_ ?_) <;> intro h))
          refine MvQ.frz 6 _ rfl rfl (Nat.le_refl _) ?_
          (repeat' first | (refine Owe.same ?_; first | refine Owe.o ?_ | refine Owe.mk ?_ ?_) | (refine Fork.same ?_; (first | refine fkD ?_ ?_ | refine fkN ?_ ?_ | refine fkM ?_ ?_) <;> intro h) | refine MvQ.stay ?_)
          refine again (k + 1) [2] hltk (by omega) ?_
          (refine qis ?_ ?_ <;> (repeat' first | exact rfl | (refine qS ?_; constructor)))
          · show (snK (w, g, l, m) k).length + 1 = _
            rw [hkl]; exact (accL_len _ _).symm
          · exact ⟨_, rfl, hks⟩
    · (repeat' first | (refine Owe.same ?_; first | refine Owe.o ?_ | refine Owe.mk ?_ ?_) | (refine Fork.same ?_; (first | refine fkD ?_ ?_ | refine fkN ?_ ?_ | refine fkM ?_ ?_) <;> intro h) | refine MvQ.stay ?_)
      have : k = l.length := by omega
      subst this
      subst hS
      refine rqF 0 _ rfl rfl rfl ?_; (repeat' first | exact rfl | (refine qS ?_; constructor))
/-- The costs of so many views of a set. -/
def cvC (l : List Vw) (t : List Int) : Nat → Int
  | 0 => 0
  | k + 1 => cvC l t k + (l.getD (t.getD k 0).toNat vwd).2
/-- A map with more keys. -/
def putL (es : List (Int × Int)) : List Int → List (Int × Int)
  | [] => es
  | y :: l => putL (mput es y 0) l
def cvM (L : List (List Int)) (t : List Int) : Nat → List (Int × Int)
  | 0 => []
  | k + 1 => putL (cvM L t k) (L.getD (t.getD k 0).toNat [])
/-- The cost of a set of views, and whether they see all that is wanted. -/
def cvF (x : Se) (L : List (List Int)) (t : List Int) : Int × Bool := (cvC x.2.2.1 t t.length, decide ((cvM L t t.length).length = x.2.2.2.length))
theorem putL_take {es : List (Int × Int)} : ∀ {l : List Int} {j : Nat}, j < l.length → putL es (l.take (j + 1)) = mput (putL es (l.take j)) (l.getD j 0) 0
  | [], j, h => by simp at h
  | y :: l, 0, h => by simp [putL]
  | y :: l, j + 1, h => by
    simp only [List.take_succ_cons, putL, List.getD_cons_succ]
    exact putL_take (by simpa using h)
theorem cvC_bd {l : List Vw} {t : List Int} (h : ∀ i, 0 ≤ (l.getD i vwd).2 ∧ (l.getD i vwd).2 ≤ 1000) : ∀ k, 0 ≤ cvC l t k ∧ cvC l t k ≤ 1000 * k
  | 0 => by simp [cvC]
  | k + 1 => by
    have := cvC_bd (t := t) h k
    have := h (t.getD k 0).toNat
    simp only [cvC]; omega
theorem C78 {x : Se} {L : List (List Int)} {t : List Int} (hO : SeOk x) (hL : L.length = x.2.2.1.length ∧ ∀ i, (L.getD i []).length ≤ 1000) (ht : t.length ≤ 1000000) (hx : ∀ y ∈ t, 0 ≤ y ∧ y < x.2.2.1.length) : PFD Try.prog 78 [.c (ints t), .c (.rp (seD x)), .c (.rp (rLs L))] (.tup [vi .i64 (cvF x L t).1, vbl (cvF x L t).2]) := by
  obtain ⟨w, g, l, m⟩ := x
  have hn := hO.n
  have hm := hO.len
  simp only at hn hm hL hx
  have hlb : ∀ i, 0 ≤ (l.getD i vwd).2 ∧ (l.getD i vwd).2 ≤ 1000 := fun i => by
    rcases Nat.lt_or_ge i l.length with h | h
    · exact (hO.v i h).2
    · rw [List.getD_eq_getElem?_getD, List.getElem?_eq_none h]; decide
  rw [show cvF (w, g, l, m) L t = (cvC l t t.length, decide ((cvM L t t.length).length = m.length)) from rfl]
  refine pi2 fn78 ?_
  (repeat' first | (refine Owe.same ?_; first | refine Owe.o ?_ | refine Owe.mk ?_ ?_) | (refine Fork.same ?_; (first | refine fkD ?_ ?_ | refine fkN ?_ ?_ | refine fkM ?_ ?_) <;> intro h) | refine MvQ.stay ?_)
  refine Sat.lp (fun k : Nat => ⟨[(15, vi .i64 k), (14, vi .i64 t.length), (13, .c (ints t)), (1, .c (.rp (seD (w, g, l, m)))), (2, .c (.rp (rLs L))), (6, vi .i64 (cvC l t k)), (7, .c (.mp 0))], [(0, .mp 0 (cvM L t k))], 1⟩)
    (fun k => k ≤ t.length) (fun k => t.length - k) 0 [0] (Nat.zero_le _) ?_ ?_
  · (refine qis ?_ ?_ <;> (repeat' first | exact rfl | (refine qS ?_; constructor)))
  · intro k hk
    have hcb := cvC_bd (t := t) hlb k
    refine Fork.dec (fun hlt => ?_) (fun hlt => ?_)
    · have hltk : k < t.length := by omega
      have ht := hx _ (getD_mem 0 hltk)
      have hLl := hL.2 (t.getD k 0).toNat
      have hv := hlb (t.getD k 0).toNat
      have e : cvC l t (k + 1) = cvC l t k + (l.getD (t.getD k 0).toNat vwd).2 := rfl
      (repeat' first | (refine Owe.same ?_; first | refine Owe.o ?_ | refine Owe.mk ?_ ?_) | (refine Fork.same ?_; (first | refine fkD ?_ ?_ | refine fkN ?_ ?_ | refine fkM ?_ ?_) <;> intro h) | refine MvQ.stay ?_)
      refine Sat.lp (fun j : Nat => ⟨[(32, vi .i64 j), (31, vi .i64 (L.getD (t.getD k 0).toNat []).length), (30, .c (ints (L.getD (t.getD k 0).toNat []))), (15, vi .i64 k), (14, vi .i64 t.length), (13, .c (ints t)), (1, .c (.rp (seD (w, g, l, m)))), (2, .c (.rp (rLs L))), (6, vi .i64 (cvC l t (k + 1))), (7, .c (.mp 0))], [(0, .mp 0 (putL (cvM L t k) ((L.getD (t.getD k 0).toNat []).take j)))], 1⟩)
        (fun j => j ≤ (L.getD (t.getD k 0).toNat []).length) (fun j => (L.getD (t.getD k 0).toNat []).length - j) 0 [0] (Nat.zero_le _) ?_ ?_
      · (refine qis ?_ ?_ <;> (repeat' first | exact rfl | (refine qS ?_; constructor)))
      · intro j hj
        refine Fork.dec (fun hlt => ?_) (fun hlt => ?_)
        · have hltj : j < (L.getD (t.getD k 0).toNat []).length := by omega
          have e2 := putL_take (es := cvM L t k) hltj
          (repeat' first | (refine Owe.same ?_; first | refine Owe.o ?_ | refine Owe.mk ?_ ?_) | (refine Fork.same ?_; (first | refine fkD ?_ ?_ | refine fkN ?_ ?_ | refine fkM ?_ ?_) <;> intro h) | refine MvQ.stay ?_)
          refine again (j + 1) [0] hltj (by omega) ?_
          rw [e2]
          (refine qis ?_ ?_ <;> (repeat' first | exact rfl | (refine qS ?_; constructor)))
        · have : j = (L.getD (t.getD k 0).toNat []).length := by omega
          (repeat' first | (refine Owe.same ?_; first | refine Owe.o ?_ | refine Owe.mk ?_ ?_) | (refine Fork.same ?_; (first | refine fkD ?_ ?_ | refine fkN ?_ ?_ | refine fkM ?_ ?_) <;> intro h) | refine MvQ.stay ?_)
          refine again (k + 1) [0] hltk (by omega) ?_
          have e3 : cvM L t (k + 1) = putL (cvM L t k) ((L.getD (t.getD k 0).toNat []).take j) := by rw [cvM, this, List.take_length]
          rw [e3]
          (refine qis ?_ ?_ <;> (repeat' first | exact rfl | (refine qS ?_; constructor)))
    · have : k = t.length := by omega
      subst this
      (repeat' first | (refine Owe.same ?_; first | refine Owe.o ?_ | refine Owe.mk ?_ ?_) | (refine Fork.same ?_; (first | refine fkD ?_ ?_ | refine fkN ?_ ?_ | refine fkM ?_ ?_) <;> intro h) | refine MvQ.stay ?_)
      (refine rqK rfl ?_; (repeat' first | exact rfl | (refine qS ?_; constructor)))
      exact decide_eq_decide.2 Int.ofNat_inj
theorem accL_get {α : Type} (f : Nat → α) {d : α} {n i : Nat} (h : i < n) : (accL f n).getD i d = f i := by
  simp [accL, List.getD_eq_getElem?_getD, h]
theorem snR_len {x : Se} (h : SeOk x) : ∀ i, ((snS x).getD i []).length ≤ 1000 := fun i => by
  rcases Nat.lt_or_ge i x.2.2.1.length with hi | hi
  · have hr := (h.v i hi).1
    have hw := h.w; have hh := h.h
    have hr12 : ryOk (x.2.2.1.getD i vwd).1 12 12 := by simp only [ryOk, inG] at hr ⊢; omega
    have h1 := wn_le hr12
    have h2 := hn_le hr12
    have h3 : (crS (x.2.2.1.getD i vwd).1).length ≤ 12 * 12 := Nat.le_trans crS_len (Nat.mul_le_mul (by omega) (by omega))
    have h4 := snJ_len x.1 x.2.2.2 (x.2.2.1.getD i vwd).1 (crS (x.2.2.1.getD i vwd).1).length
    rw [snS, snK, accL_get _ hi, snR]
    omega
  · rw [List.getD_eq_getElem?_getD, List.getElem?_eq_none (by rw [accL_len]; exact hi)]; decide
/-- The best cover. -/
abbrev cvB (x : Se) : BSt := bestK (cvF x (snS x)) x.2.2.1.length (2 ^ x.2.2.1.length)
theorem C40 {x : Se} : (x.2.2.1.length ≤ 1000000 ∧ x.2.2.2.length ≤ 1000000) → PFD Try.prog 40 [sev x] (.tup [.c (ints (if (seE x).2 = 0 then (cvB x).l else [])), vi .i64 (if (seE x).2 = 0 then (cvB x).p else 0), vi .i64 (if (seE x).2 = 0 then unb (cvB x).ok 12 else (seE x).2)]) := fun hl => by
  by_cases h0 : (seE x).2 = 0
  · have hO := seE_ok.1 h0
    have hn := hO.n
    have c76 := C76 hl
    have c77 := C77 hO
    have c68 := C68 (g := 78) (rows := [seD x, rLs (snS x)]) (c := cvF x (snS x)) (n := x.2.2.1.length) (fun t ht hx => C78 hO ⟨accL_len _ _, snR_len hO⟩ ht hx) (by omega)
    rw [if_pos h0, if_pos h0, if_pos h0]
    rw [h0] at c76
    have hlen := bestK_len (cvF x (snS x)) x.2.2.1.length (2 ^ x.2.2.1.length)
    rw [show bestK (cvF x (snS x)) x.2.2.1.length (2 ^ x.2.2.1.length) = cvB x from rfl] at c68 hlen
    generalize cvB x = B at *
    generalize snS x = L at *
    refine pi3 fn40u ?_
    (repeat' first | (refine Owe.same ?_; first | refine Owe.o ?_ | refine Owe.mk ?_ ?_) | (refine Fork.same ?_; (first | refine fkD ?_ ?_ | refine fkN ?_ ?_ | refine fkM ?_ ?_) <;> intro h) | ((first | refine OpsL.same ?_ | refine OpsDL.same ?_); first | refine pK c76 rfl rfl ?_ | refine pK c77 rfl rfl ?_ | refine pK C49 rfl rfl ?_) | refine MvQ.stay ?_)
    · exact absurd rfl h
    refine SatL.frB 1 [7] rfl rfl ?_
    refine SatL.frB 0 [1] rfl rfl ?_
    refine SatL.go ?_
    (repeat' first | (refine Owe.same ?_; first | refine Owe.o ?_ | refine Owe.mk ?_ ?_) | (refine Fork.same ?_; (first | refine fkD ?_ ?_ | refine fkN ?_ ?_ | refine fkM ?_ ?_) <;> intro h) | ((first | refine OpsL.same ?_ | refine OpsDL.same ?_); first | refine pK c68 rfl rfl ?_ | refine pK C49 rfl rfl ?_) | refine MvQ.stay ?_)
    (refine rqK rfl ?_; (repeat' first | exact rfl | (refine qS ?_; constructor)))
  · rw [if_neg h0, if_neg h0, if_neg h0]
    refine pi3 fn40u ?_
    (repeat' first | (refine Owe.same ?_; first | refine Owe.o ?_ | refine Owe.mk ?_ ?_) | (refine Fork.same ?_; (first | refine fkD ?_ ?_ | refine fkN ?_ ?_ | refine fkM ?_ ?_) <;> intro h) | ((first | refine OpsL.same ?_ | refine OpsDL.same ?_); first | refine pK (C76 hl) rfl rfl ?_) | refine MvQ.stay ?_)
    · (refine rqK rfl ?_; (repeat' first | exact rfl | (refine qS ?_; constructor)))
    · exact absurd h h0
end Go.Pw

set_option linter.unusedVariables false
namespace Go.Pw
open Go Go.RowKit
theorem arg_trs {v : V} (h : Arg false [.sl [.int .i64, .int .i64, .int .i64]] v) : ∃ l : List (Int × Int × Int), RI v (.c (trs l)) ∧ l.length ≤ maxLen ∧ ∀ a ∈ l, i64 a.1 ∧ i64 a.2.1 ∧ i64 a.2.2 := by
  obtain ⟨d, rfl, h1⟩ := arg_c h
  obtain ⟨l, h2, h3⟩ := okD_list ((0, 0, 0) : Int × Int × Int) (fun ds => row3) h1
  exact ⟨l, VEq.ri (.c _ _ h2), h3⟩
end Go.Pw

set_option linter.unusedSimpArgs false
namespace Go.Pw
set_option maxRecDepth 2000
open Go Go.Proofs A1 A2 A3 A4
theorem fst_c {a : Int} {l : List Int} (h : a ≠ 0) : fstE (a :: l) = a := by rw [fstE, if_neg h]
theorem fst_z {l : List Int} : fstE (0 :: l) = fstE l := by rw [fstE, if_pos rfl]
abbrev exD : List Dv := [(1, 2, 3), (2, 1, 3), (4, 2, 2)]
abbrev exY : List Dv := [(10, 4, 5), (20, 5, 6)]
abbrev exT : List Pr := [(1, 0), (-1, 0)]
abbrev exU : List Pr := [(1, 0), (3, 0), (-3, 0), (0, 0)]
abbrev exS : Sc := (4, 2, [((0, 0), (3, 1), true), ((0, 1), (3, 1), false)])
abbrev exQ : Se := (4, 2, [(((0, 0), (3, 0), false), 5), (((0, 0), (3, 1), false), 4), (((0, 1), (3, 1), false), 3)], [3, 6])
theorem C37 : PFD Try.prog 37 [] (.c (trs exD)) := by
  refine pi1 fn37 ?_
  (repeat' first | (refine Owe.same ?_; first | refine Owe.o ?_ | refine Owe.mk ?_ ?_) | (refine Fork.same ?_; (first | refine fkD ?_ ?_ | refine fkN ?_ ?_ | refine fkM ?_ ?_) <;> intro h) | refine MvQ.stay ?_)
  (refine rqK rfl ?_; (repeat' first | exact rfl | (refine qS ?_; constructor)))
theorem C38 : PFD Try.prog 38 [] (.c (trs exY)) := by
  refine pi1 fn38 ?_
  (repeat' first | (refine Owe.same ?_; first | refine Owe.o ?_ | refine Owe.mk ?_ ?_) | (refine Fork.same ?_; (first | refine fkD ?_ ?_ | refine fkN ?_ ?_ | refine fkM ?_ ?_) <;> intro h) | refine MvQ.stay ?_)
  (refine rqK rfl ?_; (repeat' first | exact rfl | (refine qS ?_; constructor)))
theorem C75 {a b c d : Int} {h : Bool} : PFD Try.prog 75 [vi .i64 a, vi .i64 b, vi .i64 c, vi .i64 d, vbl h] (ryv ((a, b), (c, d), h)) := by
  refine pi1 fn75 ?_
  (repeat' first | (refine Owe.same ?_; first | refine Owe.o ?_ | refine Owe.mk ?_ ?_) | (refine Fork.same ?_; (first | refine fkD ?_ ?_ | refine fkN ?_ ?_ | refine fkM ?_ ?_) <;> intro h) | refine MvQ.stay ?_)
  (refine rqK rfl ?_; (repeat' first | exact rfl | (refine qS ?_; constructor)))
theorem C39 : PFD Try.prog 39 [] (scv exS) := by
  refine pi1 fn39 ?_
  (repeat' first | (refine Owe.same ?_; first | refine Owe.o ?_ | refine Owe.mk ?_ ?_) | (refine Fork.same ?_; (first | refine fkD ?_ ?_ | refine fkN ?_ ?_ | refine fkM ?_ ?_) <;> intro h) | ((first | refine OpsL.same ?_ | refine OpsDL.same ?_); first | refine pK C75 rfl rfl ?_) | refine MvQ.stay ?_)
  (refine rqK rfl ?_; (repeat' first | exact rfl | (refine qS ?_; constructor)))
theorem C41 : PFD Try.prog 41 [] (sev exQ) := by
  refine pi1 fn41 ?_
  (repeat' first | (refine Owe.same ?_; first | refine Owe.o ?_ | refine Owe.mk ?_ ?_) | (refine Fork.same ?_; (first | refine fkD ?_ ?_ | refine fkN ?_ ?_ | refine fkM ?_ ?_) <;> intro h) | ((first | refine OpsL.same ?_ | refine OpsDL.same ?_); first | refine pK C75 rfl rfl ?_) | refine MvQ.stay ?_)
  (refine rqK rfl ?_; (repeat' first | exact rfl | (refine qS ?_; constructor)))
theorem C42 {a b : Tn} : (a.2.length ≤ 1000000) → PFD Try.prog 42 [tv a, tv b] (vbl (decide (a = b))) := fun h => by
  obtain ⟨a1, a2⟩ := a
  obtain ⟨b1, b2⟩ := b
  refine pi1 fn42 ?_
  (repeat' first | (refine Owe.same ?_; first | refine Owe.o ?_ | refine Owe.mk ?_ ?_) | (refine Fork.same ?_; (first | refine fkD ?_ ?_ | refine fkN ?_ ?_ | refine fkM ?_ ?_) <;> intro h) | ((first | refine OpsL.same ?_ | refine OpsDL.same ?_); first | refine pK C19 rfl rfl ?_) | refine MvQ.stay ?_)
  · have h : a1 = b1 := h
    subst h
    (refine rqK rfl ?_; (repeat' first | exact rfl | (refine qS ?_; constructor)))
    simp
  · have h : ¬ a1 = b1 := h
    (refine rqK rfl ?_; (repeat' first | exact rfl | (refine qS ?_; constructor)))
    simp [h]
theorem C8 : PFD Try.prog 8 [] (vbl true) := by
  have c1 := C36 (l := exD) (by decide)
  have c2 := C15 (T := exT) (S := exU) (lim := 9) (by decide)
  have c3 := C27 (l := exY) (T := 4) (by decide)
  have c4 := C35 (s := exS) (by decide)
  have c5 := C30 (s := exS) (by decide)
  have c6 := C40 (x := exQ) (by decide)
  rw [show shR exD = ((9, [0, 5, 0]), 0) by decide +kernel] at c1
  rw [show ecE exT exU 9 = 0 by decide +kernel, if_pos rfl, show ecL exT exU 9 = [1] by decide +kernel] at c2
  rw [show dpS exY 4 = ((17, 22), 0) by decide +kernel] at c3
  rw [show (scE exS).2 = 0 by decide +kernel, if_pos rfl, show stS exS [] = [1, 1, 0, 0, 1, 1, 1, 3] by decide +kernel] at c4
  rw [show (scE exS).2 = 0 by decide +kernel, if_pos rfl, show (bestK (odC exS) exS.2.2.length (2 ^ exS.2.2.length)).l = [0] by decide +kernel] at c5
  rw [show (seE exQ).2 = 0 by decide +kernel, if_pos rfl, if_pos rfl, if_pos rfl, show (cvB exQ).l = [0, 2] by decide +kernel, show (cvB exQ).p = 8 by decide +kernel, show (cvB exQ).ok = true by decide +kernel] at c6
  have c7 := C42 (a := (9, [0, 5, 0])) (b := (9, [0, 5, 0])) (by decide)
  have c8 := C19 (l := [1]) (m := [1]) (by decide)
  have c9 := C19 (l := [1, 1, 0, 0, 1, 1, 1, 3]) (m := [1, 1, 0, 0, 1, 1, 1, 3]) (by decide)
  have c10 := C19 (l := [0]) (m := [0]) (by decide)
  have c11 := C19 (l := [0, 2]) (m := [0, 2]) (by decide)
  rw [decide_eq_true rfl] at c7 c8 c9 c10 c11
  refine pi1 fn8 ?_
  (repeat' first | (refine Owe.same ?_; first | refine Owe.o ?_ | refine Owe.mk ?_ ?_) | (refine Fork.same ?_; (first | refine fkY ?_ | refine fkF ?_ | ((first | refine fkD ?_ ?_ | refine fkN ?_ ?_ | refine fkM ?_ ?_) <;> intro h))) | ((first | refine OpsL.same ?_ | refine OpsDL.same ?_); first | refine pK C37 rfl rfl ?_ | refine pK C38 rfl rfl ?_ | refine pK C39 rfl rfl ?_ | refine pK C41 rfl rfl ?_ | refine pK c1 rfl rfl ?_ | refine pK c2 rfl rfl ?_ | refine pK c3 rfl rfl ?_ | refine pK c4 rfl rfl ?_ | refine pK c5 rfl rfl ?_ | refine pK c6 rfl rfl ?_ | refine pK c7 rfl rfl ?_) | refine MvQ.stay ?_)
  ((first | refine OpsL.same ?_ | refine OpsDL.same ?_); first | refine pK c8 rfl rfl ?_)
  (repeat' first | (refine Owe.same ?_; first | refine Owe.o ?_ | refine Owe.mk ?_ ?_) | (refine Fork.same ?_; (first | refine fkY ?_ | refine fkF ?_ | ((first | refine fkD ?_ ?_ | refine fkN ?_ ?_ | refine fkM ?_ ?_) <;> intro h))) | ((first | refine OpsL.same ?_ | refine OpsDL.same ?_); first | refine pK c7 rfl rfl ?_) | refine MvQ.stay ?_)
  ((first | refine OpsL.same ?_ | refine OpsDL.same ?_); first | refine pK c9 rfl rfl ?_)
  (repeat' first | (refine Owe.same ?_; first | refine Owe.o ?_ | refine Owe.mk ?_ ?_) | (refine Fork.same ?_; (first | refine fkY ?_ | refine fkF ?_ | ((first | refine fkD ?_ ?_ | refine fkN ?_ ?_ | refine fkM ?_ ?_) <;> intro h))) | ((first | refine OpsL.same ?_ | refine OpsDL.same ?_); first | refine pK c7 rfl rfl ?_) | refine MvQ.stay ?_)
  ((first | refine OpsL.same ?_ | refine OpsDL.same ?_); first | refine pK c10 rfl rfl ?_)
  (repeat' first | (refine Owe.same ?_; first | refine Owe.o ?_ | refine Owe.mk ?_ ?_) | (refine Fork.same ?_; (first | refine fkY ?_ | refine fkF ?_ | ((first | refine fkD ?_ ?_ | refine fkN ?_ ?_ | refine fkM ?_ ?_) <;> intro h))) | ((first | refine OpsL.same ?_ | refine OpsDL.same ?_); first | refine pK c7 rfl rfl ?_) | refine MvQ.stay ?_)
  ((first | refine OpsL.same ?_ | refine OpsDL.same ?_); first | refine pK c11 rfl rfl ?_)
  (repeat' first | (refine Owe.same ?_; first | refine Owe.o ?_ | refine Owe.mk ?_ ?_) | (refine Fork.same ?_; (first | refine fkY ?_ | refine fkF ?_ | ((first | refine fkD ?_ ?_ | refine fkN ?_ ?_ | refine fkM ?_ ?_) <;> intro h))) | ((first | refine OpsL.same ?_ | refine OpsDL.same ?_); first | refine pK c7 rfl rfl ?_) | refine MvQ.stay ?_)
  (refine rqK rfl ?_; (repeat' first | exact rfl | (refine qS ?_; constructor)))
end Go.Pw

set_option linter.unusedSimpArgs false
namespace Go.Pw
theorem ratN {n : Int} (h : 0 ≤ n) : ((n.toNat : Nat) : Rat) = (n : Rat) := by
  have e : ((n.toNat : Nat) : Int) = n := Int.toNat_of_nonneg h
  rw [← Rat.intCast_natCast, e]
abbrev qV (q : Qt) : Rat := (q.1 : Rat) / (q.2 : Rat)
theorem qV_mul {q : Qt} (h : 0 < q.2) : qV q * q.2 = q.1 := Rat.div_mul_cancel (by have : (0 : Rat) < (q.2 : Nat) := by exact_mod_cast h
                                                                                   grind)
theorem plusQ_x {q o : Qt} (hq : 0 < q.2) (ho : 0 < o.2) : (plusQ q o).1 * (q.2 * o.2) = (q.1 * o.2 + o.1 * q.2) * (plusQ q o).2 := by
  rw [plusQ]
  have g0 : 0 < Nat.gcd q.2 o.2 := Nat.gcd_pos_of_pos_left _ hq
  have e1 : Nat.gcd q.2 o.2 * (q.2 / Nat.gcd q.2 o.2) = q.2 := Nat.mul_div_cancel' (Nat.gcd_dvd_left _ _)
  have e2 : Nat.gcd q.2 o.2 * (o.2 / Nat.gcd q.2 o.2) = o.2 := Nat.mul_div_cancel' (Nat.gcd_dvd_right _ _)
  have y0 : 0 < q.2 / Nat.gcd q.2 o.2 := Nat.div_pos (Nat.le_of_dvd hq (Nat.gcd_dvd_left _ _)) g0
  generalize q.2 / Nat.gcd q.2 o.2 = y at *
  generalize o.2 / Nat.gcd q.2 o.2 = x at *
  generalize Nat.gcd q.2 o.2 = g at *
  have h0 : 0 < Nat.gcd (q.1 * x + o.1 * y) (y * o.2) := Nat.gcd_pos_of_pos_right _ (Nat.mul_pos y0 ho)
  have e3 : Nat.gcd (q.1 * x + o.1 * y) (y * o.2) * ((q.1 * x + o.1 * y) / Nat.gcd (q.1 * x + o.1 * y) (y * o.2)) = q.1 * x + o.1 * y := Nat.mul_div_cancel' (Nat.gcd_dvd_left _ _)
  have e4 : Nat.gcd (q.1 * x + o.1 * y) (y * o.2) * (y * o.2 / Nat.gcd (q.1 * x + o.1 * y) (y * o.2)) = y * o.2 := Nat.mul_div_cancel' (Nat.gcd_dvd_right _ _)
  generalize (q.1 * x + o.1 * y) / Nat.gcd (q.1 * x + o.1 * y) (y * o.2) = n at *
  generalize y * o.2 / Nat.gcd (q.1 * x + o.1 * y) (y * o.2) = d at *
  generalize Nat.gcd (q.1 * x + o.1 * y) (y * o.2) = h at *
  refine Nat.eq_of_mul_eq_mul_left h0 ?_
  calc h * (n * (q.2 * o.2)) = (h * n) * (q.2 * o.2) := by rw [Nat.mul_assoc]
    _ = (q.1 * x + o.1 * y) * ((g * y) * o.2) := by rw [e3, e1]
    _ = (q.1 * (g * x) + o.1 * (g * y)) * (y * o.2) := by grind
    _ = (q.1 * o.2 + o.1 * q.2) * (h * d) := by rw [e2, e1, e4]
    _ = h * ((q.1 * o.2 + o.1 * q.2) * d) := by rw [Nat.mul_left_comm]
theorem nR {n : Nat} (h : 0 < n) : (0 : Rat) < n := by exact_mod_cast h
theorem plusQ_v {q o : Qt} (hq : 0 < q.2) (ho : 0 < o.2) : qV (plusQ q o) = qV q + qV o := by
  have hp := plusQ_pos hq ho
  have e : (((plusQ q o).1 * (q.2 * o.2) : Nat) : Rat) = (((q.1 * o.2 + o.1 * q.2) * (plusQ q o).2 : Nat) : Rat) := by rw [plusQ_x hq ho]
  have a1 := qV_mul hq
  have a2 := qV_mul ho
  have a3 := qV_mul hp
  have b1 := nR hq
  have b2 := nR ho
  have b3 := nR hp
  simp only [Rat.natCast_mul, Rat.natCast_add] at e
  generalize qV (plusQ q o) = P at *
  generalize qV q = Q at *
  generalize qV o = O at *
  rw [← a1, ← a2, ← a3] at e
  have hne : (q.2 : Rat) * o.2 * (plusQ q o).2 ≠ 0 := by
    have := Rat.mul_pos (Rat.mul_pos b1 b2) b3
    grind
  have e5 : (P - (Q + O)) * ((q.2 : Rat) * o.2 * (plusQ q o).2) = 0 := by grind
  rcases Rat.mul_eq_zero.1 e5 with h | h
  · grind
  · exact absurd h hne
abbrev Ts := List (Int × Int)
def DQ : Ts → Rat → Rat
  | [], _ => 0
  | x :: r, t => if r = [] ∨ t * (x.2 : Rat) < (x.1 : Rat) then t * x.2 else x.1 + DQ r (t - x.1 / x.2)
/-- Layers in range, with positive speeds. -/
abbrev okV (l : Ts) : Prop := ∀ x ∈ l, 1 ≤ x.1 ∧ 1 ≤ x.2
/-- The same layers, with no slower speeds. -/
def le2 : Ts → Ts → Prop
  | [], [] => True
  | x :: l, y :: m => x.1 = y.1 ∧ x.2 ≤ y.2 ∧ le2 l m
  | _, _ => False
theorem le2_ok : ∀ {l m : Ts}, okV l → le2 l m → okV m
  | [], [], h, _ => h
  | x :: l, y :: m, h, hw => fun z hz => by
    have hx := h x (.head _)
    obtain ⟨h1, h2, h3⟩ := hw
    rcases List.mem_cons.1 hz with rfl | hz
    · omega
    · exact le2_ok (fun y hy => h y (.tail _ hy)) h3 z hz
  | [], _ :: _, _, h => h.elim
  | _ :: _, [], _, h => h.elim
theorem okV.tl {x : Int × Int} {l : Ts} (h : okV (x :: l)) : okV l := fun y hy => h y (.tail _ hy)
theorem iR {n : Int} (h : 1 ≤ n) : (0 : Rat) < n := by
  have : (0 : Int) < n := by omega
  exact_mod_cast this
theorem q_le {a b v : Rat} (hv : 0 < v) : a / v ≤ b ↔ a ≤ b * v := by
  have e : a / v * v = a := Rat.div_mul_cancel (by grind)
  constructor
  · intro h; have := Rat.mul_le_mul_of_nonneg_right h (Rat.le_of_lt hv); rwa [e] at this
  · intro h; exact Rat.le_of_mul_le_mul_right (by rwa [e]) hv
theorem DQ_nn : ∀ {l : Ts} {t : Rat}, okV l → 0 ≤ t → 0 ≤ DQ l t
  | [], _, _, _ => Rat.le_refl
  | x :: r, t, h, ht => by
    have hx := h x (.head _)
    have h1 := iR hx.1
    have h2 := iR hx.2
    rw [DQ]
    split
    · exact Rat.mul_nonneg ht (Rat.le_of_lt h2)
    · rename_i hc
      have hc : (x.1 : Rat) ≤ t * x.2 := Rat.not_lt.1 fun h => hc (.inr h)
      have := DQ_nn (l := r) (t := t - x.1 / x.2) h.tl (by have := (q_le h2).2 hc; grind)
      grind
theorem DQ_t : ∀ {l : Ts} {s t : Rat}, okV l → 0 ≤ s → s ≤ t → DQ l s ≤ DQ l t
  | [], _, _, _, _, _ => Rat.le_refl
  | x :: r, s, t, h, hs, ht => by
    have hx := h x (.head _)
    have h1 := iR hx.1
    have h2 := iR hx.2
    have hm := Rat.mul_le_mul_of_nonneg_right ht (Rat.le_of_lt h2)
    rw [DQ, DQ]
    by_cases hr : r = []
    · rw [if_pos (.inl hr), if_pos (.inl hr)]; exact hm
    · by_cases c1 : s * (x.2 : Rat) < x.1
      · rw [if_pos (.inr c1)]
        by_cases c2 : t * (x.2 : Rat) < x.1
        · rw [if_pos (.inr c2)]; exact hm
        · rw [if_neg (by simp only [hr, c2]; decide)]
          have := DQ_nn (l := r) (t := t - x.1 / x.2) h.tl (by have := (q_le h2).2 (Rat.not_lt.1 c2); grind)
          grind
      · have c2 : ¬ t * (x.2 : Rat) < x.1 := by grind
        rw [if_neg (by simp only [hr, c1]; decide), if_neg (by simp only [hr, c2]; decide)]
        have := DQ_t (l := r) (s := s - x.1 / x.2) (t := t - x.1 / x.2) h.tl (by have := (q_le h2).2 (Rat.not_lt.1 c1); grind) (by grind)
        grind
theorem DQ_v : ∀ {l m : Ts} {t : Rat}, okV l → le2 l m → 0 ≤ t → DQ l t ≤ DQ m t
  | [], [], _, _, _, _ => Rat.le_refl
  | [], _ :: _, _, _, h, _ => h.elim
  | _ :: _, [], _, _, h, _ => h.elim
  | x :: r, y :: s, t, h, hw, ht => by
    have hx := h x (.head _)
    obtain ⟨hxy, hwx, hwr⟩ := hw
    have hk : okV s := le2_ok h.tl hwr
    have hs : s = [] ↔ r = [] := by cases r <;> cases s <;> simp_all [le2]
    have h1 := iR hx.1
    have h2 := iR hx.2
    have h3 := iR (show 1 ≤ y.2 by omega)
    have hvw : (x.2 : Rat) ≤ y.2 := by exact_mod_cast hwx
    have hm := Rat.mul_le_mul_of_nonneg_left hvw ht
    rw [DQ, DQ, ← hxy]
    by_cases hr : r = []
    · rw [if_pos (.inl hr), if_pos (.inl (hs.2 hr))]; exact hm
    · by_cases c1 : t * (x.2 : Rat) < x.1
      · rw [if_pos (.inr c1)]
        by_cases c2 : t * (y.2 : Rat) < x.1
        · rw [if_pos (.inr c2)]; exact hm
        · rw [if_neg (by simp only [hs, hr, c2]; decide)]
          have := DQ_nn (l := s) (t := t - x.1 / y.2) hk (by have := (q_le h3).2 (Rat.not_lt.1 c2); grind)
          grind
      · have c2 : ¬ t * (y.2 : Rat) < x.1 := by grind
        rw [if_neg (by simp only [hr, c1]; decide), if_neg (by simp only [hs, hr, c2]; decide)]
        have a1 := (q_le h2).2 (Rat.not_lt.1 c1)
        have a2 : (x.1 : Rat) / y.2 ≤ x.1 / x.2 := by
          rw [q_le h3]
          have e : (x.1 : Rat) / x.2 * x.2 = x.1 := Rat.div_mul_cancel (by grind)
          have : 0 ≤ (x.1 : Rat) / x.2 := by
            rcases Rat.le_total (a := 0) (b := (x.1 : Rat) / x.2) with h | h
            · exact h
            · have := Rat.mul_le_mul_of_nonneg_right h (Rat.le_of_lt h2); grind
          have := Rat.mul_le_mul_of_nonneg_left hvw this
          grind
        have b1 := DQ_t (l := r) (s := t - x.1 / x.2) (t := t - x.1 / y.2) h.tl (by grind) (by grind)
        have b2 := DQ_v (l := r) (m := s) (t := t - x.1 / y.2) h.tl hwr (by grind)
        grind
def LQ : Ts → Rat → Rat
  | [], _ => 0
  | x :: r, d => if r = [] ∨ d ≤ (x.1 : Rat) then d / x.2 else x.1 / x.2 + LQ r (d - x.1)
theorem div_nn {a v : Rat} (ha : 0 ≤ a) (hv : 0 < v) : 0 ≤ a / v := by
  have e : a / v * v = a := Rat.div_mul_cancel (by grind)
  refine Rat.not_lt.1 fun h => ?_
  have := Rat.mul_lt_mul_of_pos_right h hv
  grind
theorem div_le {a v w : Rat} (ha : 0 ≤ a) (hv : 0 < v) (hw : v ≤ w) : a / w ≤ a / v := by
  have h3 : 0 < w := by grind
  rw [q_le h3]
  have e : a / v * v = a := Rat.div_mul_cancel (by grind)
  have := Rat.mul_le_mul_of_nonneg_left hw (div_nn ha hv)
  grind
theorem LQ_v : ∀ {l m : Ts} {d : Rat}, okV l → le2 l m → 0 ≤ d → LQ m d ≤ LQ l d
  | [], [], _, _, _, _ => Rat.le_refl
  | [], _ :: _, _, _, h, _ => h.elim
  | _ :: _, [], _, _, h, _ => h.elim
  | x :: r, y :: s, d, h, hw, hd => by
    have hx := h x (.head _)
    obtain ⟨hxy, hwx, hwr⟩ := hw
    have hs : s = [] ↔ r = [] := by cases r <;> cases s <;> simp_all [le2]
    have h1 := iR hx.1
    have h2 := iR hx.2
    have hvw : (x.2 : Rat) ≤ y.2 := by exact_mod_cast hwx
    rw [LQ, LQ, ← hxy]
    simp only [hs]
    split
    · exact div_le hd h2 hvw
    · rename_i hc
      have hc : ¬ d ≤ (x.1 : Rat) := fun h => hc (.inr h)
      have a1 := div_le (a := x.1) (Rat.le_of_lt h1) h2 hvw
      have a2 := LQ_v (l := r) (m := s) (d := d - x.1) h.tl hwr (by grind)
      grind
theorem mul_div_c {a v : Rat} (hv : 0 < v) : a * v / v = a := by
  have e : a * v / v * v = a * v := Rat.div_mul_cancel (by grind)
  have := Rat.mul_pos hv hv
  have h : (a * v / v - a) * v = 0 := by grind
  rcases Rat.mul_eq_zero.1 h with h | h
  · grind
  · grind
/-- Gone through, the time to a depth is the time. -/
theorem LQ_DQ : ∀ {l : Ts} {t : Rat}, okV l → l ≠ [] → 0 ≤ t → LQ l (DQ l t) = t
  | [], _, _, h, _ => absurd rfl h
  | x :: r, t, h, _, ht => by
    have hx := h x (.head _)
    have h1 := iR hx.1
    have h2 := iR hx.2
    rw [DQ]
    by_cases hr : r = []
    · rw [if_pos (.inl hr), LQ, if_pos (.inl hr), mul_div_c h2]
    · by_cases c : t * (x.2 : Rat) < x.1
      · rw [if_pos (.inr c), LQ, if_pos (.inr (Rat.le_of_lt c)), mul_div_c h2]
      · rw [if_neg (by simp only [hr, c]; decide)]
        have a1 := (q_le h2).2 (Rat.not_lt.1 c)
        have h0 : 0 ≤ t - x.1 / x.2 := by grind
        have ih := LQ_DQ (l := r) (t := t - x.1 / x.2) h.tl hr h0
        have hnn := DQ_nn (l := r) (t := t - x.1 / x.2) h.tl h0
        rw [LQ]
        by_cases c2 : (x.1 : Rat) + DQ r (t - x.1 / x.2) ≤ x.1
        · -- nothing is left of the time
          have hz : DQ r (t - x.1 / x.2) = 0 := by grind
          rw [if_pos (.inr c2), hz]
          have : t - x.1 / x.2 = 0 := by
            rw [hz] at ih
            have h5 : LQ r 0 = 0 := by
              cases r with
              | nil => exact absurd rfl hr
              | cons y r => rw [LQ, if_pos (.inr (Rat.le_of_lt (iR (h y (.tail _ (.head _))).1)))]; grind
            grind
          grind
        · rw [if_neg (by simp only [hr, c2]; decide)]
          have e : (x.1 : Rat) + DQ r (t - x.1 / x.2) - x.1 = DQ r (t - x.1 / x.2) := by grind
          rw [e, ih]; grind
theorem natsub {a b : Nat} (h : b ≤ a) : ((a - b : Nat) : Rat) = (a : Rat) - b := by
  have : ((a - b + b : Nat) : Rat) = (a : Rat) := by rw [Nat.sub_add_cancel h]
  rw [Rat.natCast_add] at this
  grind
theorem qV_eq {a b : Nat} {r : Rat} (hb : 0 < b) (h : (a : Rat) = r * b) : qV (a, b) = r := by
  have e := qV_mul (q := (a, b)) hb
  have b1 := nR hb
  have : (qV (a, b) - r) * (b : Rat) = 0 := by grind
  rcases Rat.mul_eq_zero.1 this with h | h
  · grind
  · grind
theorem lyQ_v {t v : Int} (ht : 0 ≤ t) (hv : 1 ≤ v) : qV (lyQ t v) = (t : Rat) / v := by
  rw [lyQ, qV, ratN ht, ratN (by omega)]
/-- Layers with chosen speeds. -/
abbrev tsL (v : Dv → Int) (l : List Dv) : Ts := l.map fun x => (x.1, v x)
theorem deepS_v {v : Dv → Int} {T : Nat} : ∀ {l : List Dv} {p : Qt} {top : Nat}, okV (tsL v l) → l ≠ [] → 0 < p.2 → p.1 ≤ T * p.2 → qV (deepS v T l p top) = top + DQ (tsL v l) (T - qV p)
  | [], _, _, _, h, _, _ => absurd rfl h
  | x :: r, p, top, h, _, hp, hT => by
    have hx : 1 ≤ x.1 ∧ 1 ≤ v x := h (x.1, v x) (.head _)
    have h1 := iR hx.1
    have h2 := iR hx.2
    have ho : 0 < (lyQ x.1 (v x)).2 := by simp only [lyQ]; omega
    have hv := plusQ_v (o := lyQ x.1 (v x)) hp ho
    have hP := plusQ_pos (o := lyQ x.1 (v x)) hp ho
    rw [lyQ_v (by omega) hx.2] at hv
    have hq := qV_mul hp
    have hpp := nR hp
    have hc : T * (plusQ p (lyQ x.1 (v x))).2 < (plusQ p (lyQ x.1 (v x))).1 ↔ ((T : Rat) - qV p) * v x < x.1 := by
      have e1 := qV_mul hP
      have e2 := nR hP
      have e3 : (x.1 : Rat) / v x * v x = x.1 := Rat.div_mul_cancel (by grind)
      constructor
      · intro hh
        have hh : ((T * (plusQ p (lyQ x.1 (v x))).2 : Nat) : Rat) < ((plusQ p (lyQ x.1 (v x))).1 : Rat) := by exact_mod_cast hh
        rw [Rat.natCast_mul, ← e1] at hh
        have h5 : (T : Rat) < qV (plusQ p (lyQ x.1 (v x))) := Rat.lt_of_mul_lt_mul_right hh (Rat.le_of_lt e2)
        have h6 : (T : Rat) - qV p < x.1 / v x := by grind
        have := Rat.mul_lt_mul_of_pos_right h6 h2
        rwa [e3] at this
      · intro hh
        rw [← e3] at hh
        have h6 : (T : Rat) - qV p < x.1 / v x := Rat.lt_of_mul_lt_mul_right hh (Rat.le_of_lt h2)
        have h5 : (T : Rat) < qV (plusQ p (lyQ x.1 (v x))) := by grind
        have := Rat.mul_lt_mul_of_pos_right h5 e2
        rw [e1] at this
        exact_mod_cast this
    have hm : tsL v r = [] ↔ r = [] := List.map_eq_nil_iff
    rw [deepS, tsL, List.map_cons, DQ]
    simp only [hm]
    by_cases hr : r = [] ∨ T * (plusQ p (lyQ x.1 (v x))).2 < (plusQ p (lyQ x.1 (v x))).1
    · rw [if_pos hr, if_pos (hr.imp_right hc.1)]
      refine qV_eq hp ?_
      rw [Rat.natCast_add, Rat.natCast_mul, Rat.natCast_mul, natsub hT, Rat.natCast_mul, ratN (by omega)]
      grind
    · rw [if_neg hr, if_neg (fun hh => hr (hh.imp_right hc.2))]
      have hr1 : r ≠ [] := fun h => hr (.inl h)
      rw [deepS_v (l := r) h.tl hr1 hP (Nat.le_of_not_lt fun h => hr (.inr h)), hv, Rat.natCast_add, ratN (by omega)]
      have : (T : Rat) - (qV p + x.1 / v x) = T - qV p - x.1 / v x := by grind
      rw [this]; grind
theorem lateS_v {v : Dv → Int} : ∀ {l : List Dv} {d : Int} {q : Qt}, okV (tsL v l) → l ≠ [] → 0 < q.2 → 0 ≤ d → qV (lateS v l d q) = qV q + LQ (tsL v l) d
  | [], _, _, _, h, _, _ => absurd rfl h
  | x :: r, d, q, h, _, hq, hd => by
    have hx : 1 ≤ x.1 ∧ 1 ≤ v x := h (x.1, v x) (.head _)
    have h1 := iR hx.1
    have h2 := iR hx.2
    have key : ∀ a : Int, 0 ≤ a → qV (plusQ q (lyQ a (v x))) = qV q + (a : Rat) / v x := fun a ha => by
      rw [plusQ_v hq (by simp only [lyQ]; omega), lyQ_v ha hx.2]
    have kp : ∀ a : Int, 0 < (plusQ q (lyQ a (v x))).2 := fun a => plusQ_pos hq (by simp only [lyQ]; omega)
    have kz : ∀ (l : List Dv) (q : Qt), okV (tsL v l) → 0 < q.2 → qV (lateS v l 0 q) = qV q := by
      intro l
      induction l with
      | nil => intro q _ _; rfl
      | cons y l ih =>
        intro q hk hq
        have hy : 1 ≤ y.1 ∧ 1 ≤ v y := hk (y.1, v y) (.head _)
        have e : latePart (l = []) y.1 0 = 0 := by rw [latePart]; split <;> omega
        rw [lateS, e, Int.sub_zero, ih _ hk.tl (plusQ_pos hq (by simp only [lyQ]; omega)), plusQ_v hq (by simp only [lyQ]; omega), lyQ_v (by omega) hy.2]
        grind
    have hm : tsL v r = [] ↔ r = [] := List.map_eq_nil_iff
    rw [lateS, tsL, List.map_cons, LQ]
    simp only [hm]
    by_cases hr : r = []
    · have e : latePart (r = []) x.1 d = d := by rw [latePart, if_pos hr]; omega
      rw [e, if_pos (.inl hr), Int.sub_self, kz r _ h.tl (kp d), key d hd]
    · by_cases c : d ≤ x.1
      · have e : latePart (r = []) x.1 d = d := by rw [latePart, if_neg hr]; omega
        have c' : (d : Rat) ≤ x.1 := by exact_mod_cast c
        rw [e, if_pos (.inr c'), Int.sub_self, kz r _ h.tl (kp d), key d hd]
      · have e : latePart (r = []) x.1 d = x.1 := by rw [latePart, if_neg hr]; omega
        have c' : ¬ (d : Rat) ≤ x.1 := fun hh => c (by exact_mod_cast hh)
        rw [e, if_neg (by simp only [hr, c']; decide), lateS_v (l := r) h.tl hr (kp _) (by omega), key _ (by omega), Rat.intCast_sub]
        grind
theorem flo_le {q : Qt} {d : Nat} (h : 0 < q.2) (hq : qV q ≤ d) : q.1 / q.2 ≤ d := by
  have e := qV_mul h
  have hp := nR h
  have := Rat.mul_le_mul_of_nonneg_right hq (Rat.le_of_lt hp)
  rw [e] at this
  have : q.1 ≤ d * q.2 := by exact_mod_cast this
  exact Nat.div_le_of_le_mul (by rw [Nat.mul_comm]; exact this)
theorem le_cei {q : Qt} {d : Nat} (h : 0 < q.2) (hq : (d : Rat) ≤ qV q) : d ≤ (q.1 + q.2 - 1) / q.2 := by
  have e := qV_mul h
  have hp := nR h
  have := Rat.mul_le_mul_of_nonneg_right hq (Rat.le_of_lt hp)
  rw [e] at this
  have : d * q.2 ≤ q.1 := by exact_mod_cast this
  rw [Nat.le_div_iff_mul_le h]; omega
theorem flo_v {q : Qt} (h : 0 < q.2) : ((q.1 / q.2 : Nat) : Rat) ≤ qV q := by
  have e := qV_mul h
  have hp := nR h
  have : (q.1 / q.2) * q.2 ≤ q.1 := Nat.div_mul_le_self _ _
  have : ((q.1 / q.2 : Nat) : Rat) * q.2 ≤ q.1 := by exact_mod_cast this
  rw [← e] at this
  exact Rat.le_of_mul_le_mul_right this hp
theorem cei_v {q : Qt} (h : 0 < q.2) : qV q ≤ (((q.1 + q.2 - 1) / q.2 : Nat) : Rat) := by
  have e := qV_mul h
  have hp := nR h
  have h1 : q.1 + q.2 - 1 < ((q.1 + q.2 - 1) / q.2 + 1) * q.2 := Nat.lt_mul_of_div_lt (Nat.lt_succ_self _) h
  have : q.1 ≤ ((q.1 + q.2 - 1) / q.2) * q.2 := by rw [Nat.add_mul, Nat.one_mul] at h1; omega
  have : (q.1 : Rat) ≤ (((q.1 + q.2 - 1) / q.2 : Nat) : Rat) * q.2 := by exact_mod_cast this
  rw [← e] at this
  exact Rat.le_of_mul_le_mul_right this hp
theorem flo_mono {q o : Qt} (hq : 0 < q.2) (ho : 0 < o.2) (h : qV q ≤ qV o) : q.1 / q.2 ≤ o.1 / o.2 := by
  have h1 := Rat.le_trans (flo_v hq) h
  have e := qV_mul ho
  have := Rat.mul_le_mul_of_nonneg_right h1 (Rat.le_of_lt (nR ho))
  rw [e] at this
  have : q.1 / q.2 * o.2 ≤ o.1 := by exact_mod_cast this
  exact (Nat.le_div_iff_mul_le ho).2 this
theorem cei_mono {q o : Qt} (hq : 0 < q.2) (ho : 0 < o.2) (h : qV q ≤ qV o) : (q.1 + q.2 - 1) / q.2 ≤ (o.1 + o.2 - 1) / o.2 := by
  have h1 := Rat.le_trans h (cei_v ho)
  have e := qV_mul hq
  have := Rat.mul_le_mul_of_nonneg_right h1 (Rat.le_of_lt (nR hq))
  rw [e] at this
  have : q.1 ≤ (o.1 + o.2 - 1) / o.2 * q.2 := by exact_mod_cast this
  refine Nat.le_of_lt_succ ((Nat.div_lt_iff_lt_mul hq).2 ?_)
  rw [Nat.succ_mul]; omega
section
variable (tk vv : Nat → Int) (n : Nat) (T : Int)
/-- What is left of the time, and the depth, after so many layers. -/
def dlK : Nat → Int × Int
  | 0 => (0, T)
  | k + 1 => ((dlK k).1 + vv k * min (if k = n - 1 then (dlK k).2 else tk k) (dlK k).2, (dlK k).2 - min (if k = n - 1 then (dlK k).2 else tk k) (dlK k).2)
end
theorem dlK_bd {tk vv : Nat → Int} {n : Nat} {T : Int} (hT : 0 ≤ T ∧ T ≤ 1000) (h : ∀ i, i < n → 1 ≤ tk i ∧ 1 ≤ vv i ∧ vv i ≤ 100) : ∀ k, k ≤ n → (0 ≤ (dlK tk vv n T k).1 ∧ (dlK tk vv n T k).1 ≤ 100 * (T - (dlK tk vv n T k).2)) ∧ 0 ≤ (dlK tk vv n T k).2 ∧ (dlK tk vv n T k).2 ≤ T
  | 0, _ => by simp only [dlK]; omega
  | k + 1, hk => by
    have ih := dlK_bd hT h k (by omega)
    have hk := h k (by omega)
    simp only [dlK]
    obtain ⟨m, hm⟩ : ∃ m, m = min (if k = n - 1 then (dlK tk vv n T k).2 else tk k) (dlK tk vv n T k).2 := ⟨_, rfl⟩
    rw [← hm]
    have hm0 : 0 ≤ m ∧ m ≤ (dlK tk vv n T k).2 := by rw [hm]; split <;> omega
    have p1 : 0 ≤ vv k * m := Int.mul_nonneg (by omega) hm0.1
    have p2 : vv k * m ≤ 100 * m := Int.mul_le_mul_of_nonneg_right hk.2.2 hm0.1
    omega
theorem DQ_0 : ∀ {l : Ts}, okV l → DQ l 0 = 0
  | [], _ => rfl
  | x :: r, h => by
    have h1 := iR (h x (.head _)).1
    rw [DQ, if_pos (.inr (by grind))]; grind
abbrev trT (tk vv : Nat → Int) (n : Nat) : Ts := accL (fun i => (vv i * tk i, vv i)) n
theorem accL_drop {α : Type} {f : Nat → α} {n k : Nat} (h : k < n) : (accL f n).drop k = f k :: (accL f n).drop (k + 1) := by
  rw [List.drop_eq_getElem_cons (by rw [accL_len]; exact h)]
  simp [accL]
theorem DQ_dl {tk vv : Nat → Int} {n : Nat} {T : Int} (hT : 0 ≤ T ∧ T ≤ 1000) (h : ∀ i, i < n → 1 ≤ tk i ∧ 1 ≤ vv i ∧ vv i ≤ 100) (hok : okV (trT tk vv n)) : ∀ k, k < n → DQ (trT tk vv n) T = ((dlK tk vv n T k).1 : Rat) + DQ ((trT tk vv n).drop k) ((dlK tk vv n T k).2 : Rat)
  | 0, _ => by simp only [dlK, List.drop_zero]; grind
  | k + 1, hk => by
    have ih := DQ_dl hT h hok k (by omega)
    have hb := (dlK_bd hT h k (by omega)).2
    have hvk := h k (by omega)
    have hv := iR hvk.2.1
    have ht := iR hvk.1
    rw [ih, accL_drop (by omega : k < n), DQ]
    have hok2 : okV ((trT tk vv n).drop (k + 1)) := fun x hx => hok x (List.mem_of_mem_drop hx)
    have hne : (trT tk vv n).drop (k + 1) ≠ [] := fun he => by
      have := congrArg List.length he
      rw [List.length_drop, accL_len] at this
      simp at this; omega
    have hkn : ¬ k = n - 1 := by omega
    generalize (trT tk vv n).drop (k + 1) = r at *
    simp only [dlK, if_neg hkn]
    generalize (dlK tk vv n T k).1 = d at *
    generalize (dlK tk vv n T k).2 = e at *
    rw [Rat.intCast_mul]
    by_cases c : e < tk k
    · have c' : (e : Rat) < tk k := by exact_mod_cast c
      have := Rat.mul_lt_mul_of_pos_right c' hv
      rw [if_pos (.inr (by grind)), show min (tk k) e = e by omega, Int.sub_self, Rat.intCast_add, Rat.intCast_mul]
      have := DQ_0 hok2
      simp only [Rat.intCast_zero] at *
      grind
    · have c' : (tk k : Rat) ≤ e := by exact_mod_cast Int.not_lt.1 c
      have h5 := Rat.mul_le_mul_of_nonneg_right c' (Rat.le_of_lt hv)
      rw [if_neg (by
        rintro (h | h)
        · exact hne h
        · grind), show min (tk k) e = tk k by omega, Rat.intCast_add, Rat.intCast_mul, Rat.intCast_sub]
      have e6 : (vv k : Rat) * tk k / vv k = tk k := by rw [Rat.mul_comm (vv k : Rat), mul_div_c hv]
      rw [e6]; grind
theorem DQ_law {tk vv : Nat → Int} {n : Nat} {T : Int} (hT : 0 ≤ T ∧ T ≤ 1000) (hn : 0 < n) (h : ∀ i, i < n → 1 ≤ tk i ∧ 1 ≤ vv i ∧ vv i ≤ 100) (hok : okV (trT tk vv n)) : DQ (trT tk vv n) T = ((dlK tk vv n T n).1 : Rat) := by
  obtain ⟨k, rfl⟩ : ∃ k, n = k + 1 := ⟨n - 1, by omega⟩
  have hb := (dlK_bd hT h k (by omega)).2
  rw [DQ_dl hT h hok k (by omega), accL_drop (by omega : k < k + 1), List.drop_of_length_le (by rw [accL_len]; omega), DQ, if_pos (.inl rfl)]
  have e : (dlK tk vv (k + 1) T (k + 1)).1 = (dlK tk vv (k + 1) T k).1 + vv k * (dlK tk vv (k + 1) T k).2 := by
    rw [dlK]
    simp only
    rw [if_pos (by omega : k = k + 1 - 1)]
    congr 2; omega
  rw [e, Rat.intCast_add, Rat.intCast_mul]
  grind
/-- The layers, and the layers with one slower speed. -/
abbrev exLy (tk vv l h : Nat → Int) (n : Nat) : List Dv := accL (fun i => (vv i * tk i, l i, h i)) n
structure ExOk (tk vv l h : Nat → Int) (n : Nat) : Prop where
  nb : 0 < n ∧ n ≤ 6
  tb : ∀ i, i < n → 1 ≤ tk i ∧ tk i ≤ 20
  vb : ∀ i, i < n → l i ≤ vv i ∧ vv i ≤ h i
  bb : ∀ i, i < n → 1 ≤ l i ∧ h i ≤ 100
variable {tk vv l h l' : Nat → Int} {n : Nat} {T : Int}
theorem ExOk.th (hE : ExOk tk vv l h n) {i : Nat} (hi : i < n) : 1 ≤ vv i * tk i ∧ vv i * tk i ≤ 10000 := by
  have := hE.tb i hi; have := hE.vb i hi; have := hE.bb i hi
  have h1 : (1 : Int) * 1 ≤ vv i * tk i := Int.mul_le_mul (by omega) (by omega) (by decide) (by omega)
  have h2 : vv i * tk i ≤ 100 * 20 := Int.mul_le_mul (by omega) (by omega) (by omega) (by decide)
  omega
theorem ExOk.err (hE : ExOk tk vv l h n) : (lysE (exLy tk vv l h n)).2 = 0 := by
  have hlen : (exLy tk vv l h n).length = n := accL_len _ _
  rw [lysE, hlen, if_pos (by rw [cntE, fst2, unl0 (by decide), unl0 (by decide)]; have := hE.nb; omega)]
  refine eachE_ok.2 fun x hx => ?_
  obtain ⟨i, hi, rfl⟩ := List.mem_map.1 hx
  have hi := List.mem_range.1 hi
  have := hE.th hi; have := hE.vb i hi; have := hE.bb i hi
  refine lyE_ok.2 ⟨⟨by simp only; omega, by simp only; omega, by simp only; omega⟩, by simp only; omega⟩
theorem ExOk.okV (hE : ExOk tk vv l h n) (f : Dv → Int) (hf : ∀ x : Dv, f x = x.2.1 ∨ f x = x.2.2) : okV (tsL f (exLy tk vv l h n)) := fun x hx => by
  obtain ⟨y, hy, rfl⟩ := List.mem_map.1 hx
  obtain ⟨i, hi, rfl⟩ := List.mem_map.1 hy
  have hi := List.mem_range.1 hi
  have := hE.th hi; have := hE.vb i hi; have := hE.bb i hi
  have := hf (vv i * tk i, l i, h i)
  simp only at *; omega
theorem ExOk.okT (hE : ExOk tk vv l h n) : Pw.okV (trT tk vv n) := fun x hx => by
  obtain ⟨i, hi, rfl⟩ := List.mem_map.1 hx
  have hi := List.mem_range.1 hi
  have := hE.th hi; have := hE.vb i hi; have := hE.bb i hi
  simp only at *; omega
theorem le2_map {α : Type} {f g : α → Int × Int} : ∀ {L : List α}, (∀ x ∈ L, (f x).1 = (g x).1 ∧ (f x).2 ≤ (g x).2) → le2 (L.map f) (L.map g)
  | [], _ => trivial
  | x :: L, hx => ⟨(hx x (.head _)).1, (hx x (.head _)).2, le2_map fun y hy => hx y (.tail _ hy)⟩
theorem tsL_ex (f : Dv → Int) : tsL f (exLy tk vv l h n) = (List.range n).map fun i => (vv i * tk i, f (vv i * tk i, l i, h i)) := by
  rw [tsL, exLy, accL, List.map_map]; rfl
theorem ExOk.ne (hE : ExOk tk vv l h n) (f : Dv → Int) : exLy tk vv l h n ≠ [] := fun he => by
  have := congrArg List.length he
  rw [accL_len] at this
  have := hE.nb
  simp at *; omega
theorem ExOk.bdx (hE : ExOk tk vv l h n) (f : Dv → Int) (hf : ∀ x : Dv, f x = x.2.1 ∨ f x = x.2.2) : ∀ x ∈ exLy tk vv l h n, (1 ≤ x.1 ∧ x.1 ≤ 10000) ∧ 1 ≤ f x ∧ f x ≤ 100 := fun x hx => by
  obtain ⟨i, hi, rfl⟩ := List.mem_map.1 hx
  have hi := List.mem_range.1 hi
  have := hE.th hi; have := hE.vb i hi; have := hE.bb i hi
  have := hf (vv i * tk i, l i, h i)
  simp only at *; omega
theorem nat0 : ((0 : Nat) : Rat) = 0 := rfl
theorem qV0 : qV (0, 1) = 0 := qV_eq (by decide) (by rw [Rat.zero_mul]; exact nat0)
theorem ExOk.dq (hE : ExOk tk vv l h n) (f : Dv → Int) (hf : ∀ x : Dv, f x = x.2.1 ∨ f x = x.2.2) {t : Nat} (ht : t ≤ 100000) :
    qV (deepS f t (exLy tk vv l h n) (0, 1) 0) = DQ (tsL f (exLy tk vv l h n)) t ∧ 0 < (deepS f t (exLy tk vv l h n) (0, 1) 0).2 := by
  have hlen : (exLy tk vv l h n).length = n := accL_len _ _
  refine ⟨?_, (deepS_bd ht _ 0 (0, 1) 0 (hE.bdx f hf) (by have := hE.nb; omega) (by decide) (by decide) (by simp) (by decide)).1⟩
  rw [deepS_v (hE.okV f hf) (hE.ne f) (by decide) (by simp), qV0]
  have e : (t : Rat) - 0 = t := by grind
  rw [e, nat0]; grind
theorem ExOk.lq (hE : ExOk tk vv l h n) (f : Dv → Int) (hf : ∀ x : Dv, f x = x.2.1 ∨ f x = x.2.2) {d : Int} (hd : 0 ≤ d ∧ d ≤ 100000) :
    qV (lateS f (exLy tk vv l h n) d (0, 1)) = LQ (tsL f (exLy tk vv l h n)) d ∧ 0 < (lateS f (exLy tk vv l h n) d (0, 1)).2 := by
  have hlen : (exLy tk vv l h n).length = n := accL_len _ _
  refine ⟨?_, (lateS_bd _ 0 d (0, 1) (hE.bdx f hf) (by have := hE.nb; omega) (by decide) (by decide) (by decide) hd.1 hd.2).1⟩
  rw [lateS_v (hE.okV f hf) (hE.ne f) (by decide) hd.1, qV0]
  grind
/-- What the law asks of the depths after times. -/
theorem ExOk.dp (hE : ExOk tk vv l h n) (hT : 0 ≤ T ∧ T ≤ 100000) : dpS (exLy tk vv l h n) T = ((((((deepS lo T.toNat (exLy tk vv l h n) (0, 1) 0).1 / (deepS lo T.toNat (exLy tk vv l h n) (0, 1) 0).2 : Nat) : Int)), ((((deepS hi T.toNat (exLy tk vv l h n) (0, 1) 0).1 + (deepS hi T.toNat (exLy tk vv l h n) (0, 1) 0).2 - 1) / (deepS hi T.toNat (exLy tk vv l h n) (0, 1) 0).2 : Nat) : Int)), (0 : Int)) := by
  rw [dpS, if_pos (by rw [lsE, fst2, unl0 (by decide)]; exact ⟨hE.err, hT⟩)]
theorem ExOk.within (hE : ExOk tk vv l h n) (hT : 0 ≤ T ∧ T ≤ 1000) : (dpS (exLy tk vv l h n) T).1.1 ≤ (dlK tk vv n T n).1 ∧ (dlK tk vv n T n).1 ≤ (dpS (exLy tk vv l h n) T).1.2 := by
  rw [hE.dp (by omega)]
  have hb := dlK_bd (tk := tk) (vv := vv) (n := n) hT (fun i hi => by have := hE.tb i hi; have := hE.vb i hi; have := hE.bb i hi; omega) n (Nat.le_refl _)
  have hD := DQ_law (tk := tk) (vv := vv) (n := n) hT hE.nb.1 (fun i hi => by have := hE.tb i hi; have := hE.vb i hi; have := hE.bb i hi; omega) hE.okT
  obtain ⟨d, hd⟩ : ∃ d : Nat, (dlK tk vv n T n).1 = d := ⟨(dlK tk vv n T n).1.toNat, by omega⟩
  rw [hd] at hD ⊢
  obtain ⟨e1, p1⟩ := hE.dq lo (fun x => .inl rfl) (t := T.toNat) (by omega)
  obtain ⟨e2, p2⟩ := hE.dq hi (fun x => .inr rfl) (t := T.toNat) (by omega)
  have eT : ((T.toNat : Nat) : Rat) = T := ratN hT.1
  have hT0 : (0 : Rat) ≤ T := by exact_mod_cast hT.1
  rw [eT] at e1 e2
  have l1 : DQ (tsL lo (exLy tk vv l h n)) T ≤ DQ (trT tk vv n) T := DQ_v (hE.okV lo fun x => .inl rfl) (by
    rw [tsL_ex]; exact le2_map fun i hi => ⟨rfl, (hE.vb i (List.mem_range.1 hi)).1⟩) hT0
  have l2 : DQ (trT tk vv n) T ≤ DQ (tsL hi (exLy tk vv l h n)) T := DQ_v hE.okT (by
    rw [tsL_ex]; exact le2_map fun i hi => ⟨rfl, (hE.vb i (List.mem_range.1 hi)).2⟩) hT0
  rw [hD, Rat.intCast_natCast] at l1 l2
  rw [← e1] at l1
  rw [← e2] at l2
  exact ⟨Int.ofNat_le.2 (flo_le p1 l1), Int.ofNat_le.2 (le_cei p2 l2)⟩
theorem ExOk.later (hE : ExOk tk vv l h n) (hT : 0 ≤ T ∧ T ≤ 1000) : (dpS (exLy tk vv l h n) T).1.1 ≤ (dpS (exLy tk vv l h n) (T + 1)).1.1 ∧ (dpS (exLy tk vv l h n) T).1.2 ≤ (dpS (exLy tk vv l h n) (T + 1)).1.2 := by
  rw [hE.dp (by omega), hE.dp (T := T + 1) (by omega)]
  have hT0 : (0 : Rat) ≤ (T.toNat : Nat) := by exact_mod_cast Nat.zero_le _
  have hle : ((T.toNat : Nat) : Rat) ≤ ((T + 1).toNat : Nat) := by exact_mod_cast (show T.toNat ≤ (T + 1).toNat by omega)
  obtain ⟨e1, p1⟩ := hE.dq lo (fun x => .inl rfl) (t := T.toNat) (by omega)
  obtain ⟨e2, p2⟩ := hE.dq hi (fun x => .inr rfl) (t := T.toNat) (by omega)
  obtain ⟨e3, p3⟩ := hE.dq lo (fun x => .inl rfl) (t := (T + 1).toNat) (by omega)
  obtain ⟨e4, p4⟩ := hE.dq hi (fun x => .inr rfl) (t := (T + 1).toNat) (by omega)
  refine ⟨Int.ofNat_le.2 (flo_mono p1 p3 ?_), Int.ofNat_le.2 (cei_mono p2 p4 ?_)⟩
  · rw [e1, e3]; exact DQ_t (hE.okV lo fun x => .inl rfl) hT0 hle
  · rw [e2, e4]; exact DQ_t (hE.okV hi fun x => .inr rfl) hT0 hle
theorem ExOk.wider (hE : ExOk tk vv l h n) (hE' : ExOk tk vv l' h n) (hl : ∀ i, i < n → l' i ≤ l i) (hT : 0 ≤ T ∧ T ≤ 1000) : (dpS (exLy tk vv l' h n) T).1.1 ≤ (dpS (exLy tk vv l h n) T).1.1 ∧ (dpS (exLy tk vv l h n) T).1.2 ≤ (dpS (exLy tk vv l' h n) T).1.2 := by
  rw [hE.dp (by omega), hE'.dp (by omega)]
  have hT0 : (0 : Rat) ≤ (T.toNat : Nat) := by exact_mod_cast Nat.zero_le _
  obtain ⟨e1, p1⟩ := hE.dq lo (fun x => .inl rfl) (t := T.toNat) (by omega)
  obtain ⟨e2, p2⟩ := hE.dq hi (fun x => .inr rfl) (t := T.toNat) (by omega)
  obtain ⟨e3, p3⟩ := hE'.dq lo (fun x => .inl rfl) (t := T.toNat) (by omega)
  obtain ⟨e4, p4⟩ := hE'.dq hi (fun x => .inr rfl) (t := T.toNat) (by omega)
  refine ⟨Int.ofNat_le.2 (flo_mono p3 p1 ?_), Int.ofNat_le.2 (cei_mono p2 p4 ?_)⟩
  · rw [e1, e3]; exact DQ_v (hE'.okV lo fun x => .inl rfl) (by rw [tsL_ex, tsL_ex]; exact le2_map fun i hi => ⟨rfl, hl i (List.mem_range.1 hi)⟩) hT0
  · rw [e2, e4]; exact DQ_v (hE.okV hi fun x => .inr rfl) (by rw [tsL_ex, tsL_ex]; exact le2_map fun i hi => ⟨rfl, Int.le_refl _⟩) hT0
theorem ExOk.times (hE : ExOk tk vv l h n) (hT : 0 ≤ T ∧ T ≤ 1000) (hd : 0 ≤ (dlK tk vv n T n).1 ∧ (dlK tk vv n T n).1 ≤ 100000) :
    (tmS (exLy tk vv l h n) (dlK tk vv n T n).1).2 = 0 ∧ (tmS (exLy tk vv l h n) (dlK tk vv n T n).1).1.1 ≤ T ∧ T ≤ (tmS (exLy tk vv l h n) (dlK tk vv n T n).1).1.2 := by
  have hD := DQ_law (tk := tk) (vv := vv) (n := n) hT hE.nb.1 (fun i hi => by have := hE.tb i hi; have := hE.vb i hi; have := hE.bb i hi; omega) hE.okT
  have hT0 : (0 : Rat) ≤ T := by exact_mod_cast hT.1
  have hne : trT tk vv n ≠ [] := fun he => by
    have := congrArg List.length he
    rw [accL_len] at this
    have := hE.nb
    simp at *; omega
  have hL := LQ_DQ hE.okT hne hT0
  rw [hD] at hL
  generalize (dlK tk vv n T n).1 = d at *
  have hd0 : (0 : Rat) ≤ d := by exact_mod_cast hd.1
  rw [tmS, if_pos (by rw [lsE, fst2, unl0 (by decide)]; exact ⟨hE.err, hd⟩)]
  obtain ⟨e1, p1⟩ := hE.lq hi (fun x => .inr rfl) hd
  obtain ⟨e2, p2⟩ := hE.lq lo (fun x => .inl rfl) hd
  have l1 : LQ (tsL hi (exLy tk vv l h n)) d ≤ LQ (trT tk vv n) d := LQ_v hE.okT (by
    rw [tsL_ex]; exact le2_map fun i hi => ⟨rfl, (hE.vb i (List.mem_range.1 hi)).2⟩) hd0
  have l2 : LQ (trT tk vv n) d ≤ LQ (tsL lo (exLy tk vv l h n)) d := LQ_v (hE.okV lo fun x => .inl rfl) (by
    rw [tsL_ex]; exact le2_map fun i hi => ⟨rfl, (hE.vb i (List.mem_range.1 hi)).1⟩) hd0
  obtain ⟨t, rfl⟩ : ∃ t : Nat, T = t := ⟨T.toNat, by omega⟩
  rw [hL, Rat.intCast_natCast] at l1 l2
  rw [← e1] at l1
  rw [← e2] at l2
  exact ⟨rfl, Int.ofNat_le.2 (flo_le p1 l1), Int.ofNat_le.2 (le_cei p2 l2)⟩
end Go.Pw

set_option linter.unusedVariables false
set_option maxHeartbeats 2000000
set_option maxRecDepth 100000
namespace Go.Pw
open Go Go.Proofs
/-- moonpool/moonpoolref04.CopyLayers -/
def lc26u : LCode :=
  (.seq (.region [⟨some 2, .mv (.const (.slice none 0 0)), none⟩]) (.seq (.region [⟨some 3, .lit false 65 3 [], none⟩, ⟨some 4, .mv (.tmp 0), none⟩, ⟨some 5, .append true 65 3 24
    (.tmp 3) (.tmp 4), none⟩, ⟨some 2, .mv (.tmp 5), none⟩]) .ret))
theorem low26u : lowF Try.prog [5] Try.f26 = some (6, lc26u.strip, [.tmp 2]) := by kernel_rfl
theorem fn26u : FnOk Try.prog 26 6 lc26u [.tmp 2] := ⟨Try.call26, [5], _, Try.func26, low26u⟩
end Go.Pw

set_option linter.unusedSimpArgs false
namespace Go.Pw
set_option maxRecDepth 2000
open Go Go.Proofs A1 A2 A3 A4
theorem lysE_e {l : List Dv} {k : Nat} (h0 : cntE l.length 6 = 0) (h : ∀ i, i < k → lyE (l.getD i (0, 0, 0)) = 0) (hk : k < l.length) (hx : ¬ lyE (l.getD k (0, 0, 0)) = 0) : lysE l = ((k : Int), lyE (l.getD k (0, 0, 0))) := by
  have : ∀ j, j ≤ k → eachE lyE 0 l = eachE lyE j (l.drop j) := fun j => by
    induction j with
    | zero => intro _; simp
    | succ j ih => intro hj; rw [ih (by omega), eachE_drop _ (0, 0, 0) l j (by omega), if_pos (h j (by omega))]
  rw [lysE, if_pos h0, this k (Nat.le_refl _), eachE_drop _ (0, 0, 0) l k hk, if_neg hx]
theorem lysE_z {l : List Dv} (h0 : cntE l.length 6 = 0) (h : ∀ i, i < l.length → lyE (l.getD i (0, 0, 0)) = 0) : lysE l = (0, 0) := by
  have h1 : (lysE l).2 = 0 := by
    rw [lysE, if_pos h0]
    refine eachE_ok.2 fun x hx => ?_
    obtain ⟨i, hi, rfl⟩ := List.getElem_of_mem hx
    have := h i hi
    rwa [List.getD_eq_getElem?_getD, List.getElem?_eq_getElem hi] at this
  have h2 : (lysE l).1 = 0 := by
    rw [lysE, if_pos h0] at h1 ⊢
    exact eachE_fst h1
  exact Prod.ext h2 h1
theorem C58 {l : List Dv} : PFD Try.prog 58 [.c (trs l)] (.tup [vi .i64 (lysE l).1, vi .i64 (lysE l).2]) := by
  by_cases h0 : l.length = 0
  · have e : lysE l = (0, 10) := by
      have : l = [] := List.length_eq_zero_iff.1 h0
      subst this; rfl
    rw [e]
    refine pi2 fn58 ?_
    (repeat' first | (refine Owe.same ?_; first | refine Owe.o ?_ | refine Owe.mk ?_ ?_) | (refine Fork.same ?_; (first | refine fkY ?_ | refine fkF ?_ | ((first | refine fkD ?_ ?_ | refine fkN ?_ ?_ | refine fkM ?_ ?_) <;> intro h))) | ((first | refine OpsL.same ?_ | refine OpsDL.same ?_); first | refine pK C17 rfl rfl ?_) | refine MvQ.stay ?_)
    (refine rqK rfl ?_; (repeat' first | exact rfl | (refine qS ?_; constructor)))
  · by_cases h1 : l.length ≤ 6
    · have hc : cntE l.length 6 = 0 := by rw [cntE, fst2, unl0 (by decide), unl0 (by decide)]; omega
      obtain ⟨q, hq⟩ : ∃ q, q = lysE l := ⟨_, rfl⟩
      rw [← hq]
      refine pi2 fn58 ?_
      (repeat' first | (refine Owe.same ?_; first | refine Owe.o ?_ | refine Owe.mk ?_ ?_) | (refine Fork.same ?_; (first | refine fkY ?_ | refine fkF ?_ | ((first | refine fkD ?_ ?_ | refine fkN ?_ ?_ | refine fkM ?_ ?_) <;> intro h))) | ((first | refine OpsL.same ?_ | refine OpsDL.same ?_); first | refine pK C17 rfl rfl ?_) | refine MvQ.stay ?_)
      refine Sat.lp0 (fun k : Nat => [(4, vi .i64 k), (0, .c (trs l))]) (fun k => k ≤ l.length ∧ ∀ i, i < k → lyE (l.getD i (0, 0, 0)) = 0) (fun k => l.length - k) 0 ⟨Nat.zero_le _, fun i hi => by omega⟩ (by ((first | refine qen ?_ | refine qvs ?_ | refine qeq ?_ | refine qst ?_ | refine qv ?_ | refine qc ?_ | refine qe ?_ | refine qcs ?_ | skip); (repeat' first | exact rfl | (refine qS ?_; constructor)))) ?_
      intro k hk
      refine Fork.dec (fun hlt => ?_) (fun hlt => ?_)
      · have hlt : k < l.length := by omega
        obtain ⟨x, hx⟩ : ∃ x, x = l.getD k (0, 0, 0) := ⟨_, rfl⟩
        have e2 : ¬ lyOk x → q = ((k : Int), 2) := fun h => by
          have : lyE x = 2 := by rw [lyE, fst_c (by rw [unl, decide_eq_false h]; decide), unl, decide_eq_false h]; rfl
          rw [hq, lysE_e hc hk.2 hlt (by rw [← hx, this]; decide), ← hx, this]
        have e9 : lyOk x → ¬ x.2.1 ≤ x.2.2 → q = ((k : Int), 9) := fun h h' => by
          have : lyE x = 9 := by rw [lyE, show unl (lyOk x) 2 = 0 from (unl0 (by decide)).2 h, fst_z, fst_c (by rw [unl, decide_eq_false h']; decide), unl, decide_eq_false h']; rfl
          rw [hq, lysE_e hc hk.2 hlt (by rw [← hx, this]; decide), ← hx, this]
        rw [hx] at e2 e9
        (repeat' first | (refine Owe.same ?_; first | refine Owe.o ?_ | refine Owe.mk ?_ ?_) | (refine Fork.same ?_; (first | refine fkD ?_ ?_ | refine fkN ?_ ?_ | refine fkM ?_ ?_) <;> intro h) | ((first | refine OpsL.same ?_ | refine OpsDL.same ?_); first | refine pK C17 rfl rfl ?_) | refine MvQ.stay ?_)
        · rw [e2 fun hh => h hh.1]
          (refine rqK rfl ?_; (repeat' first | exact rfl | (refine qS ?_; constructor)))
        · rw [e2 fun hh => h hh.2.1]
          (refine rqK rfl ?_; (repeat' first | exact rfl | (refine qS ?_; constructor)))
        · rw [e2 fun hh => h hh.2.2]
          (refine rqK rfl ?_; (repeat' first | exact rfl | (refine qS ?_; constructor)))
        · rename_i h3 h4 h5
          rw [e9 ⟨h3, h4, h5⟩ (Int.not_le.2 h)]
          (refine rqK rfl ?_; (repeat' first | exact rfl | (refine qS ?_; constructor)))
        · rename_i h3 h4 h5
          refine again0 (k + 1) ⟨hlt, fun i hi => ?_⟩ (by omega) (by ((first | refine qen ?_ | refine qvs ?_ | refine qeq ?_ | refine qst ?_ | refine qv ?_ | refine qc ?_ | refine qe ?_ | refine qcs ?_ | skip); (repeat' first | exact rfl | (refine qS ?_; constructor))))
          rcases Nat.lt_succ_iff_lt_or_eq.1 hi with h9 | rfl
          · exact hk.2 i h9
          · exact lyE_ok.2 ⟨⟨h3, h4, h5⟩, Int.not_lt.1 h⟩
      · have : q = (0, 0) := hq.trans (lysE_z hc fun i hi => hk.2 i (by omega))
        subst this
        (repeat' first | (refine Owe.same ?_; first | refine Owe.o ?_ | refine Owe.mk ?_ ?_) | (refine Fork.same ?_; (first | refine fkY ?_ | refine fkF ?_ | ((first | refine fkD ?_ ?_ | refine fkN ?_ ?_ | refine fkM ?_ ?_) <;> intro h))) | ((first | refine OpsL.same ?_ | refine OpsDL.same ?_); first | refine pK C17 rfl rfl ?_) | refine MvQ.stay ?_)
        (refine rqK rfl ?_; (repeat' first | exact rfl | (refine qS ?_; constructor)))
    · have e : lysE l = (0, 8) := by
        rw [lysE]
        have h2 : cntE l.length 6 = 8 := by
          rw [cntE, fstE, if_pos ((unl0 (by decide)).2 (by omega)), fstE, unl, decide_eq_false (by omega)]; rfl
        rw [h2]; rfl
      rw [e]
      refine pi2 fn58 ?_
      (repeat' first | (refine Owe.same ?_; first | refine Owe.o ?_ | refine Owe.mk ?_ ?_) | (refine Fork.same ?_; (first | refine fkY ?_ | refine fkF ?_ | ((first | refine fkD ?_ ?_ | refine fkN ?_ ?_ | refine fkM ?_ ?_) <;> intro h))) | ((first | refine OpsL.same ?_ | refine OpsDL.same ?_); first | refine pK C17 rfl rfl ?_) | refine MvQ.stay ?_)
      (refine rqK rfl ?_; (repeat' first | exact rfl | (refine qS ?_; constructor)))
theorem C25 {l : List Dv} : PFD Try.prog 25 [.c (trs l)] (vi .i64 (lysE l).2) := by
  refine pi1 fn25 ?_
  (repeat' first | (refine Owe.same ?_; first | refine Owe.o ?_ | refine Owe.mk ?_ ?_) | (refine Fork.same ?_; (first | refine fkD ?_ ?_ | refine fkN ?_ ?_ | refine fkM ?_ ?_) <;> intro h) | ((first | refine OpsL.same ?_ | refine OpsDL.same ?_); first | refine pK C58 rfl rfl ?_) | refine MvQ.stay ?_)
  (refine rqK rfl ?_; (repeat' first | exact rfl | (refine qS ?_; constructor)))
abbrev tkF (l : List Dv) (i : Nat) : Int := 1 + (l.getD i (0, 0, 0)).1 % 20
abbrev vvF (l : List Dv) (s : List Int) (i : Nat) : Int := (l.getD i (0, 0, 0)).2.1 + s.getD i 0 % ((l.getD i (0, 0, 0)).2.2 - (l.getD i (0, 0, 0)).2.1 + 1)
/-- The layers when so many are made as thick as is gone through in whole ticks. -/
def exK (l : List Dv) (s : List Int) : Nat → List Dv
  | 0 => l
  | k + 1 => (exK l s k).set k (vvF l s k * tkF l k, (l.getD k (0, 0, 0)).2)
theorem exK_len {l : List Dv} {s : List Int} : ∀ k, (exK l s k).length = l.length
  | 0 => rfl
  | k + 1 => by rw [exK, List.length_set, exK_len k]
theorem exK_get {l : List Dv} {s : List Int} {i : Nat} (hi : i < l.length) : ∀ k, (exK l s k).getD i (0, 0, 0) = if i < k then (vvF l s i * tkF l i, (l.getD i (0, 0, 0)).2) else l.getD i (0, 0, 0)
  | 0 => rfl
  | k + 1 => by
    rw [exK, List.getD_eq_getElem?_getD, List.getElem?_set, exK_len]
    by_cases h : k = i
    · subst h
      rw [if_pos rfl, if_pos hi, if_pos (by omega)]; rfl
    · rw [if_neg h, ← List.getD_eq_getElem?_getD, exK_get hi k]
      by_cases h2 : i < k
      · rw [if_pos h2, if_pos (by omega)]
      · rw [if_neg h2, if_neg (by omega)]
theorem exK_all {l : List Dv} {s : List Int} : exK l s l.length = exLy (tkF l) (vvF l s) (fun i => (l.getD i (0, 0, 0)).2.1) (fun i => (l.getD i (0, 0, 0)).2.2) l.length := by
  refine ext_getD (0, 0, 0) (by rw [exK_len, accL_len]) fun i hi => ?_
  rw [exK_len] at hi
  rw [exK_get hi, if_pos hi, accL_get _ hi]
theorem exK_ok {l : List Dv} {s : List Int} (hO : LyOk l) : ExOk (tkF l) (vvF l s) (fun i => (l.getD i (0, 0, 0)).2.1) (fun i => (l.getD i (0, 0, 0)).2.2) l.length := by
  have hv : ∀ i, i < l.length → (0 : Int) ≤ s.getD i 0 % ((l.getD i (0, 0, 0)).2.2 - (l.getD i (0, 0, 0)).2.1 + 1) ∧ s.getD i 0 % ((l.getD i (0, 0, 0)).2.2 - (l.getD i (0, 0, 0)).2.1 + 1) < (l.getD i (0, 0, 0)).2.2 - (l.getD i (0, 0, 0)).2.1 + 1 := fun i hi => by
    have := hO.ok i hi
    exact ⟨Int.emod_nonneg _ (by omega), Int.emod_lt_of_pos _ (by omega)⟩
  refine ⟨hO.n, fun i hi => ?_, fun i hi => ?_, fun i hi => ?_⟩
  · simp only [tkF]; omega
  · have := hv i hi
    simp only [vvF]; omega
  · have := hO.ok i hi
    exact ⟨by omega, by omega⟩
theorem VEq.setd {α : Type} {s : Nat} {row : α → List D} {d : α} {l l' : List α} {i j : Nat} {ds : List D} (h : ∃ x, putD (row (l.getD i d)) j ds = row x ∧ l' = l.set i x) : VEq (.c (.d (.sl s l.length (setRw (fun k => row (l.getD k d)) i j ds)))) (.c (slv s row d l')) := by
  obtain ⟨x, h, rfl⟩ := h
  refine .c _ _ (CEq.sl (by simp) fun k hk => ?_)
  unfold Pw.setRw
  rw [List.getD_eq_getElem?_getD (l := l.set i x), List.getElem?_set]
  split
  · rename_i hb
    have hb := Nat.eq_of_beq_eq_true hb
    subst hb
    rw [h, if_pos rfl, if_pos hk]; rfl
  · rename_i hb
    have hb : ¬ i = k := fun h => by subst h; rw [Nat.beq_refl] at hb; cases hb
    rw [if_neg hb]; show row (l.getD k d) = _; rw [List.getD_eq_getElem?_getD]
set_option maxHeartbeats 4000000 in
theorem C6 {l : List Dv} {s : List Int} {T : Int} (hw : ∀ i, i < s.length → w64 (s.getD i 0)) : PFD Try.prog 6 [.c (trs l), .c (ints s), vi .i64 T] (vbl true) := by
  have c25 := C25 (l := l)
  have c17 := C17 (n := T) (lo := 0) (hi := 1000)
  by_cases hP : (lysE l).2 = 0 ∧ s.length = l.length ∧ 0 ≤ T ∧ T ≤ 1000
  · obtain ⟨h0, hsl, hT⟩ := hP
    have hO := lysE_ok h0
    have hn := hO.n
    have hE := exK_ok (s := s) hO
    have hb := fun k hk => dlK_bd (tk := tkF l) (vv := vvF l s) (n := l.length) hT (fun i hi => by have := hE.tb i hi; have := hE.vb i hi; have := hE.bb i hi; omega) k hk
    rw [h0] at c25
    rw [decide_eq_true hT] at c17
    refine pi1 fn6 ?_
    (repeat' first | (refine Owe.same ?_; first | refine Owe.o ?_ | refine Owe.mk ?_ ?_) | (refine Fork.same ?_; (first | refine fkY ?_ | refine fkF ?_ | ((first | refine fkD ?_ ?_ | refine fkN ?_ ?_ | refine fkM ?_ ?_) <;> intro h))) | ((first | refine OpsL.same ?_ | refine OpsDL.same ?_); first | refine oK C8 rfl rfl rfl ?_ | refine oK c25 rfl rfl rfl ?_ | refine oK c17 rfl rfl rfl ?_) | refine MvQ.stay ?_)
    refine Ops.cs rfl rfl (CallS.of fn26u rfl ?_)
    (repeat' first | (refine Owe.same ?_; first | refine Owe.o ?_ | refine Owe.mk ?_ ?_) | (refine Fork.same ?_; (first | refine fkD ?_ ?_ | refine fkN ?_ ?_ | refine fkM ?_ ?_) <;> intro h) | refine MvQ.stay ?_)
    refine Sat.lp (fun k : Nat => ⟨[(10, vi .i64 k), (8, vi .i64 (dlK (tkF l) (vvF l s) l.length T k).1), (9, vi .i64 (dlK (tkF l) (vvF l s) l.length T k).2), (0, .c (trs l)), (1, .c (ints s)), (2, vi .i64 T), (7, .c (.ms 0 (exK l s k).length))], [(0, rowv 65 3 r3 (0, 0, 0) (exK l s k))], 1⟩)
      (fun k => k ≤ l.length) (fun k => l.length - k) 0 [0] (Nat.zero_le _) ?_ ?_
    · (refine qis ?_ ?_ <;> (repeat' first | exact rfl | (refine qS ?_; constructor)))
    · intro k hk
      refine Fork.dec (fun hlt => ?_) (fun hlt => ?_)
      · have hlt : k < l.length := by omega
        have hk1 := hO.ok k hlt
        have hbk := hb k (by omega)
        have htk := hE.tb k hlt
        have hvk := hE.vb k hlt
        have hlen : (exK l s k).length = l.length := exK_len k
        have hg : (exK l s k).getD k (0, 0, 0) = l.getD k (0, 0, 0) := by rw [exK_get hlt, if_neg (Nat.lt_irrefl _)]
        have c1 := C22 (n := s.getD k 0) (b := (l.getD k (0, 0, 0)).2.2 - (l.getD k (0, 0, 0)).2.1 + 1) ⟨hw k (by omega), by omega, by simp only [Md]; omega⟩
        have c2 := C22 (n := (l.getD k (0, 0, 0)).1) (b := 20) ⟨by simp only [w64]; omega, by decide, by decide⟩
        have m1 := mbd (a := vvF l s k) (b := tkF l k) (A := 100) (B := 20) (by omega) (by omega)
        have e1 : dlK (tkF l) (vvF l s) l.length T (k + 1) = ((dlK (tkF l) (vvF l s) l.length T k).1 + vvF l s k * min (if k = l.length - 1 then (dlK (tkF l) (vvF l s) l.length T k).2 else tkF l k) (dlK (tkF l) (vvF l s) l.length T k).2, (dlK (tkF l) (vvF l s) l.length T k).2 - min (if k = l.length - 1 then (dlK (tkF l) (vvF l s) l.length T k).2 else tkF l k) (dlK (tkF l) (vvF l s) l.length T k).2) := rfl
        have e2 : exK l s (k + 1) = (exK l s k).set k (vvF l s k * tkF l k, ((exK l s k).getD k (0, 0, 0)).2) := by rw [exK, hg]
        have hlen1 : (exK l s (k + 1)).length = l.length := exK_len _
        simp only [vvF, tkF] at e1 e2 m1 hvk htk
        generalize hX' : exK l s (k + 1) = X' at *
        generalize exK l s k = X at *
        generalize hD' : dlK (tkF l) (vvF l s) l.length T (k + 1) = D' at *
        generalize dlK (tkF l) (vvF l s) l.length T k = D at *
        have m2 := mbd (a := (l.getD k (0, 0, 0)).2.1 + s.getD k 0 % ((l.getD k (0, 0, 0)).2.2 - (l.getD k (0, 0, 0)).2.1 + 1)) (b := min (1 + (l.getD k (0, 0, 0)).1 % 20) D.2) (A := 100) (B := 1000) (by omega) (by omega)
        have m3 := mbd (a := (l.getD k (0, 0, 0)).2.1 + s.getD k 0 % ((l.getD k (0, 0, 0)).2.2 - (l.getD k (0, 0, 0)).2.1 + 1)) (b := min D.2 D.2) (A := 100) (B := 1000) (by omega) (by omega)
        generalize s.getD k 0 % ((l.getD k (0, 0, 0)).2.2 - (l.getD k (0, 0, 0)).2.1 + 1) = M at *
        generalize (l.getD k (0, 0, 0)).1 % 20 = N at *
        (repeat' first | (refine Owe.same ?_; first | refine Owe.o ?_ | refine Owe.mk ?_ ?_) | (refine Fork.same ?_; (first | refine fkY ?_ | refine fkF ?_ | ((first | refine fkD ?_ ?_ | refine fkN ?_ ?_ | refine fkM ?_ ?_) <;> intro h))) | ((first | refine OpsL.same ?_ | refine OpsDL.same ?_); first | refine oK c1 rfl rfl rfl ?_ | refine oK c2 rfl rfl rfl ?_) | refine MvQ.stay ?_)
        · rw [if_pos (by omega)] at e1
          refine again (k + 1) [0] hlt (by omega) ?_
          (refine qis ?_ ?_ <;> (repeat' first | exact rfl | (refine qS ?_; constructor)))
          · rw [hD', e1]; rfl
          · rw [hD', e1]
          · rw [hX', hlen1]; exact hlen
          · exact ⟨_, rfl, hX'.trans e2⟩
        · rw [if_neg (by omega)] at e1
          refine again (k + 1) [0] hlt (by omega) ?_
          (refine qis ?_ ?_ <;> (repeat' first | exact rfl | (refine qS ?_; constructor)))
          · rw [hD', e1]; rfl
          · rw [hD', e1]
          · rw [hX', hlen1]; exact hlen
          · exact ⟨_, rfl, hX'.trans e2⟩
      · have : k = l.length := by omega
        subst this
        have hbn := hb l.length (Nat.le_refl _)
        have hlen : (exK l s l.length).length = l.length := exK_len _
        (repeat' first | (refine Owe.same ?_; first | refine Owe.o ?_ | refine Owe.mk ?_ ?_) | (refine Fork.same ?_; (first | refine fkD ?_ ?_ | refine fkN ?_ ?_ | refine fkM ?_ ?_) <;> intro h))
        refine MvQ.frz 7 _ rfl rfl (Nat.le_refl _) ?_
        have k1 := C26 (l := exK l s l.length) (by omega)
        have d1 := C27 (l := exK l s l.length) (T := T) (by omega)
        have d2 := C27 (l := exK l s l.length) (T := T + 1) (by omega)
        have d3 := C28 (l := exK l s l.length) (D := (dlK (tkF l) (vvF l s) l.length T l.length).1) (by omega)
        have hEx : exK l s l.length = exLy (tkF l) (vvF l s) (fun i => (l.getD i (0, 0, 0)).2.1) (fun i => (l.getD i (0, 0, 0)).2.2) l.length := exK_all
        have w1 := hE.within hT
        have w2 := hE.later hT
        have w3 := hE.times hT
        have z1 : (dpS (exK l s l.length) T).2 = 0 := by rw [hEx, hE.dp (by omega)]
        have z2 : (dpS (exK l s l.length) (T + 1)).2 = 0 := by rw [hEx, hE.dp (by omega)]
        rw [← hEx] at w1 w2 w3
        rw [z1] at d1
        rw [z2] at d2
        have x1 := C17 (n := (dlK (tkF l) (vvF l s) l.length T l.length).1) (lo := (dpS (exK l s l.length) T).1.1) (hi := (dpS (exK l s l.length) T).1.2)
        have x2 := C17 (n := (dlK (tkF l) (vvF l s) l.length T l.length).1) (lo := 0) (hi := 100000)
        rw [decide_eq_true w1] at x1
        -- with one slower speed
        obtain ⟨W, hW⟩ : ∃ W, W = (exK l s l.length).set 0 (((exK l s l.length).getD 0 (0, 0, 0)).1, max 1 (((exK l s l.length).getD 0 (0, 0, 0)).2.1 - 1), ((exK l s l.length).getD 0 (0, 0, 0)).2.2) := ⟨_, rfl⟩
        have hg0 : (exK l s l.length).getD 0 (0, 0, 0) = (vvF l s 0 * tkF l 0, (l.getD 0 (0, 0, 0)).2) := by rw [exK_get (by omega), if_pos (by omega)]
        have hlW : W.length = l.length := by rw [hW, List.length_set, hlen]
        have hWx : W = exLy (tkF l) (vvF l s) (fun i => if i = 0 then max 1 ((l.getD i (0, 0, 0)).2.1 - 1) else (l.getD i (0, 0, 0)).2.1) (fun i => (l.getD i (0, 0, 0)).2.2) l.length := by
          refine ext_getD (0, 0, 0) (by rw [hlW, accL_len]) fun i hi => ?_
          rw [hlW] at hi
          rw [accL_get _ hi, hW, List.getD_eq_getElem?_getD, List.getElem?_set, hlen, hg0]
          by_cases h : 0 = i
          · subst h
            rw [if_pos rfl, if_pos hi]; rfl
          · rw [if_neg h, ← List.getD_eq_getElem?_getD, exK_get hi, if_pos hi]
            show _ = (_, (if i = 0 then max 1 ((l.getD i (0, 0, 0)).2.1 - 1) else (l.getD i (0, 0, 0)).2.1), _)
            rw [if_neg (by omega)]
        have hE' : ExOk (tkF l) (vvF l s) (fun i => if i = 0 then max 1 ((l.getD i (0, 0, 0)).2.1 - 1) else (l.getD i (0, 0, 0)).2.1) (fun i => (l.getD i (0, 0, 0)).2.2) l.length := by
          refine ⟨hE.nb, hE.tb, fun i hi => ?_, fun i hi => ?_⟩
          · have h1 : (l.getD i (0, 0, 0)).2.1 ≤ vvF l s i ∧ vvF l s i ≤ (l.getD i (0, 0, 0)).2.2 := hE.vb i hi
            have h2 : 1 ≤ (l.getD i (0, 0, 0)).2.1 ∧ (l.getD i (0, 0, 0)).2.2 ≤ 100 := hE.bb i hi
            show (if i = 0 then max 1 ((l.getD i (0, 0, 0)).2.1 - 1) else (l.getD i (0, 0, 0)).2.1) ≤ vvF l s i ∧ vvF l s i ≤ (l.getD i (0, 0, 0)).2.2
            split <;> omega
          · have h2 : 1 ≤ (l.getD i (0, 0, 0)).2.1 ∧ (l.getD i (0, 0, 0)).2.2 ≤ 100 := hE.bb i hi
            show 1 ≤ (if i = 0 then max 1 ((l.getD i (0, 0, 0)).2.1 - 1) else (l.getD i (0, 0, 0)).2.1) ∧ (l.getD i (0, 0, 0)).2.2 ≤ 100
            split <;> omega
        have w5 := hE.wider hE' (fun i hi => by
          have h2 : 1 ≤ (l.getD i (0, 0, 0)).2.1 ∧ (l.getD i (0, 0, 0)).2.2 ≤ 100 := hE.bb i hi
          show (if i = 0 then max 1 ((l.getD i (0, 0, 0)).2.1 - 1) else (l.getD i (0, 0, 0)).2.1) ≤ (l.getD i (0, 0, 0)).2.1
          split <;> omega) hT
        have hlo0 : 1 ≤ ((exK l s l.length).getD 0 (0, 0, 0)).2.1 ∧ ((exK l s l.length).getD 0 (0, 0, 0)).2.1 ≤ 100 := by
          have := hO.ok 0 (by omega)
          rw [hg0]; exact ⟨this.1.2.1.1, this.1.2.1.2⟩
        rw [← hWx, ← hEx] at w5
        have z4 : (dpS W T).2 = 0 := by rw [hWx, hE'.dp (by omega)]
        have d4 := C27 (l := W) (T := T) (by omega)
        have k2 := C26 (l := W) (by omega)
        rw [z4] at d4
        clear z4 hWx hE' z1 z2 hEx hE hb hg0
        generalize dpS W T = Q at *
        generalize dpS (exK l s l.length) T = A at *
        generalize dpS (exK l s l.length) (T + 1) = B at *
        generalize exK l s l.length = X at *
        generalize (dlK (tkF l) (vvF l s) l.length T l.length).1 = D at *
        by_cases hD : 0 ≤ D ∧ D ≤ 100000
        · obtain ⟨t0, t1⟩ := w3 hD
          have x3 := C17 (n := T) (lo := (tmS X D).1.1) (hi := (tmS X D).1.2)
          rw [decide_eq_true t1] at x3
          rw [t0] at d3
          rw [decide_eq_true hD] at x2
          generalize tmS X D = t at *
          (repeat' first | (refine Owe.same ?_; first | refine Owe.o ?_ | refine Owe.mk ?_ ?_) | (refine Fork.same ?_; (first | refine fkY ?_ | refine fkF ?_ | ((first | refine fkD ?_ ?_ | refine fkN ?_ ?_ | refine fkM ?_ ?_) <;> intro h))) | ((first | refine OpsL.same ?_ | refine OpsDL.same ?_); first | refine oK d1 rfl rfl rfl ?_) | refine MvQ.stay ?_)
          ((first | refine OpsL.same ?_ | refine OpsDL.same ?_); first | refine pK k1 rfl rfl ?_)
          (repeat' first | (refine Owe.same ?_; first | refine Owe.o ?_ | refine Owe.mk ?_ ?_) | (refine Fork.same ?_; (first | refine fkY ?_ | refine fkF ?_ | ((first | refine fkD ?_ ?_ | refine fkN ?_ ?_ | refine fkM ?_ ?_) <;> intro h))) | ((first | refine OpsL.same ?_ | refine OpsDL.same ?_); first | refine oK d1 rfl rfl rfl ?_) | refine MvQ.stay ?_)
          ((first | refine OpsL.same ?_ | refine OpsDL.same ?_); first | refine pK k1 rfl rfl ?_)
          (repeat' first | (refine Owe.same ?_; first | refine Owe.o ?_ | refine Owe.mk ?_ ?_) | (refine Fork.same ?_; (first | refine fkY ?_ | refine fkF ?_ | ((first | refine fkD ?_ ?_ | refine fkN ?_ ?_ | refine fkM ?_ ?_) <;> intro h))) | ((first | refine OpsL.same ?_ | refine OpsDL.same ?_); first | refine oK d2 rfl rfl rfl ?_) | refine MvQ.stay ?_)
          ((first | refine OpsL.same ?_ | refine OpsDL.same ?_); first | refine pK k1 rfl rfl ?_)
          (repeat' first | (refine Owe.same ?_; first | refine Owe.o ?_ | refine Owe.mk ?_ ?_) | (refine Fork.same ?_; (first | refine fkY ?_ | refine fkF ?_ | ((first | refine fkD ?_ ?_ | refine fkN ?_ ?_ | refine fkM ?_ ?_) <;> intro h))) | ((first | refine OpsL.same ?_ | refine OpsDL.same ?_); first | refine oK d3 rfl rfl rfl ?_ | refine oK x1 rfl rfl rfl ?_ | refine oK x2 rfl rfl rfl ?_ | refine oK x3 rfl rfl rfl ?_) | refine MvQ.stay ?_)
          refine Ops.cs rfl rfl (CallS.of fn26u rfl ?_)
          (repeat' first | (refine Owe.same ?_; first | refine Owe.o ?_ | refine Owe.mk ?_ ?_) | (refine Fork.same ?_; (first | refine fkD ?_ ?_ | refine fkN ?_ ?_ | refine fkM ?_ ?_) <;> intro h) | refine MvQ.stay ?_)
          · simp only [Int.toNat_zero, R64]; omega
          refine OpsL.frz 187 _ rfl rfl (Nat.le_refl _) ?_
          refine OpsL.as 187 (.c (trs W)) ?_ ?_
          · exact VEq.setd ⟨_, rfl, hW⟩
          (repeat' first | (refine Owe.same ?_; first | refine Owe.o ?_ | refine Owe.mk ?_ ?_) | (refine Fork.same ?_; (first | refine fkY ?_ | refine fkF ?_ | ((first | refine fkD ?_ ?_ | refine fkN ?_ ?_ | refine fkM ?_ ?_) <;> intro h))) | ((first | refine OpsL.same ?_ | refine OpsDL.same ?_); first | refine oK k2 rfl rfl rfl ?_ | refine oK d4 rfl rfl rfl ?_) | refine MvQ.stay ?_)
          (refine rqK rfl ?_; (repeat' first | exact rfl | (refine qS ?_; constructor)))
          exact decide_eq_true w5.2
        · exfalso; omega
  · generalize (lysE l).2 = e at *
    refine pi1 fn6 ?_
    (repeat' first | (refine Owe.same ?_; first | refine Owe.o ?_ | refine Owe.mk ?_ ?_) | (refine Fork.same ?_; (first | refine fkY ?_ | refine fkF ?_ | ((first | refine fkD ?_ ?_ | refine fkN ?_ ?_ | refine fkM ?_ ?_) <;> intro h))) | ((first | refine OpsL.same ?_ | refine OpsDL.same ?_); first | refine oK C8 rfl rfl rfl ?_ | refine oK c25 rfl rfl rfl ?_ | refine oK c17 rfl rfl rfl ?_) | refine MvQ.stay ?_)
    all_goals (refine rqK rfl ?_; (repeat' first | exact rfl | (refine qS ?_; constructor)))
end Go.Pw

namespace Go.Proofs.Ytbgikbenhglmkaa
open Go.ChangeShapes Go.WideShapes Go.ChangeAt Go.RowKit Go.Pw
theorem Try.own : ownKnob Try.prog.godebug = none := by kernel_rfl
theorem Try.laidOut : laidOutB Try.prog = true := by kernel_rfl
theorem shapes : shAll Try.prog [59, 43, 3] = some [(false, [.sl [.int .i64, .int .i64, .int .i64]]), (false, [.sl [.int .i64]]), (false, [.int .i64])] := by kernel_rfl
theorem law (args : List V) (h : ArgOk [(false, [.sl [.int .i64, .int .i64, .int .i64]]), (false, [.sl [.int .i64]]), (false, [.int .i64])] args) : PFD Try.prog 6 args (vbl true) := by
  match args, h with
  | [v0, v1, v2], ⟨h0, h1, h2, _⟩ =>
    obtain ⟨l0, r0, q0⟩ := arg_trs h0
    obtain ⟨l1, r1, q1⟩ := arg_ints h1
    obtain ⟨l2, rfl, q2⟩ := arg_int h2
    exact PFD.ri (C6 (fun i hi => w64_i (q1.2 _ (getD_mem 0 hi)))) (.cons r0 (.cons r1 (.cons (RI.refl _) .nil)))
set_option maxRecDepth 100000 in
theorem lifted (os : Os) (started : os.Started) (H : Type) (enc : TypeId × Value → H) :
    ReturnsInHanded {} Try.checked os 6 .any (Rows.sonarTimesSpec.pre6 enc Try.prog Try.f6 Rows.sonarTimesRow.domain false) (Rows.sonarTimesSpec.post enc Try.prog Try.f6 false true false false) := by
  refine returnsInHanded_of_change (C := Try.checked) Try.own started (by kernel_rfl) Try.func6
    (ChangeSpec.witness6 (enc := enc) (C := Try.checked) false ⟨#[], #[.slice none 0 0, .slice none 0 0, .int .i64 0], []⟩ 8 (by kernel_rfl) (by kernel_rfl) (by kernel_rfl) (by kernel_rfl)) ?_
  intro W base args ds gs before hval0 hW hcnd _
  exact law_calls (P := Try.prog) (F := Try.f6) (tb := 4) Try.laidOut (by rw [Try.params6]; exact shapes) rfl (fun ds hl => by
    rw [Try.params6] at hl
    match ds, hl with
    | [d0, d1, d2], _ => rfl) (by kernel_rfl) Try.underlying4 law W base args ds gs before hval0 hW
theorem row_holds : Rows.SonarTimesSaid :=
  OpenClaim.holds_of_wide 6 Try.f6 rfl rfl rfl rfl rfl rfl rfl ⟨rfl, rfl, rfl, rfl, rfl⟩ rfl rfl rfl rfl rfl (by kernel_rfl) Try.func6 (by kernel_rfl)
    (of_decide_eq_true (by kernel_rfl)) (by unfold Func.isWrapper; rw [if_neg (by decide +kernel)]; exact ⟨rfl, rfl⟩)
    (fun os started H enc _ => lifted os started H enc)
end Go.Proofs.Ytbgikbenhglmkaa
