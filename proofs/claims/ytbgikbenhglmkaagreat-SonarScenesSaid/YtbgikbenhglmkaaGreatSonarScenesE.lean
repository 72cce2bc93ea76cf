/- Proved here at the end: the row named in the last theorem, on no condition. -/
import Derived.Test.YtbgikbenhglmkaaGreatSonarScenesD
import Derived.Test.YtbgikbenhglmkaaGreatProg
import Derived.Test.YtbgikbenhglmkaaGreatRows
set_option linter.unusedSimpArgs false
namespace Go.Pw
set_option maxRecDepth 2000
open Go Go.Proofs A1 A2 A3 A4
theorem C155 {c : Pr} {w g : Int} : ((-1000000 ≤ w ∧ w ≤ 1000000) ∧ -1000000 ≤ g ∧ g ≤ 1000000) → PFD Tryz.prog 155 [pr c, vi .i64 w, vi .i64 g] (vbl (decide (inG c w g))) := fun ⟨hw, hh⟩ => by
  refine pi1 fn155 ?_
  (repeat' first | (refine Owe.same ?_; first | refine Owe.o ?_ | refine Owe.mk ?_ ?_) | (refine Fork.same ?_; (first | refine fkD ?_ ?_ | refine fkN ?_ ?_ | refine fkM ?_ ?_) <;> intro h) | ((first | refine OpsL.same ?_ | refine OpsDL.same ?_); first | refine pK C14 rfl rfl ?_) | refine MvQ.stay ?_)
  · (refine rqK rfl ?_; (repeat' first | exact rfl | (refine qS ?_; constructor)))
    exact decide_eq_decide.2 ⟨fun hh => ⟨h, hh⟩, fun hh => hh.2⟩
  · (refine rqK rfl ?_; (repeat' first | exact rfl | (refine qS ?_; constructor)))
    rw [decide_eq_false]; exact fun hh => h hh.1
theorem C114 {r : Ry} {w g : Int} : ((-1000000 ≤ w ∧ w ≤ 1000000) ∧ -1000000 ≤ g ∧ g ≤ 1000000) → PFD Tryz.prog 114 [ryv r, vi .i64 w, vi .i64 g] (vi .i64 (unl (ryOk r w g) 6)) := fun ⟨hw, hh⟩ => by
  refine pi1 fn114 ?_
  (repeat' first | (refine Owe.same ?_; first | refine Owe.o ?_ | refine Owe.mk ?_ ?_) | (refine Fork.same ?_; (first | refine fkD ?_ ?_ | refine fkN ?_ ?_ | refine fkM ?_ ?_) <;> intro h) | ((first | refine OpsL.same ?_ | refine OpsDL.same ?_); first | refine pK C155 rfl rfl ?_) | refine MvQ.stay ?_)
  · (refine rqK rfl ?_; (repeat' first | exact rfl | (refine qS ?_; constructor)))
    rw [unl, decide_eq_false fun hh => h hh.1]; rfl
  · (refine rqK rfl ?_; (repeat' first | exact rfl | (refine qS ?_; constructor)))
    rw [unl, decide_eq_false fun hh => h hh.2]; rfl
  · rename_i h1
    (refine rqK rfl ?_; (repeat' first | exact rfl | (refine qS ?_; constructor)))
    rw [unl, decide_eq_true ⟨h1, h⟩]; rfl
/-- On which side of a ray the corner k of a cell lies. -/
def sdK (r : Ry) (c : Cel) (k : Int) : Int := (2 * r.2.1.1 + 1 - (2 * r.1.1 + 1)) * (2 * c.2 + 2 * k.tdiv 2 - (2 * r.1.2 + 1)) - (2 * r.2.1.2 + 1 - (2 * r.1.2 + 1)) * (2 * c.1 + 2 * k.tmod 2 - (2 * r.1.1 + 1))
def abK (r : Ry) (c : Cel) : Nat → Bool
  | 0 => false
  | k + 1 => abK r c k || decide (0 < sdK r c k)
def beK (r : Ry) (c : Cel) : Nat → Bool
  | 0 => false
  | k + 1 => beK r c k || decide (sdK r c k < 0)
theorem sides (p q a b : Int) : (((((false || decide (0 < (2 * a) * (2 * p - 1) - (2 * b) * (2 * q - 1))) || decide (0 < (2 * a) * (2 * p - 1) - (2 * b) * (2 * q + 1))) || decide (0 < (2 * a) * (2 * p + 1) - (2 * b) * (2 * q - 1))) || decide (0 < (2 * a) * (2 * p + 1) - (2 * b) * (2 * q + 1))) &&
    ((((false || decide ((2 * a) * (2 * p - 1) - (2 * b) * (2 * q - 1) < 0)) || decide ((2 * a) * (2 * p - 1) - (2 * b) * (2 * q + 1) < 0)) || decide ((2 * a) * (2 * p + 1) - (2 * b) * (2 * q - 1) < 0)) || decide ((2 * a) * (2 * p + 1) - (2 * b) * (2 * q + 1) < 0))) =
    decide (sz (a * 2 * p - b * 2 * q) < sz a + sz b) := by
  have e0 : ∀ x y : Int, 2 * x * (2 * y) = 4 * (x * y) := fun x y => by
    rw [Int.mul_assoc, Int.mul_left_comm x 2 y]; omega
  have e1 : (2 * a) * (2 * p - 1) = 4 * (a * p) - 2 * a := by rw [Int.mul_sub, Int.mul_one, e0]
  have e2 : (2 * a) * (2 * p + 1) = 4 * (a * p) + 2 * a := by rw [Int.mul_add, Int.mul_one, e0]
  have e3 : (2 * b) * (2 * q - 1) = 4 * (b * q) - 2 * b := by rw [Int.mul_sub, Int.mul_one, e0]
  have e4 : (2 * b) * (2 * q + 1) = 4 * (b * q) + 2 * b := by rw [Int.mul_add, Int.mul_one, e0]
  have e5 : a * 2 * p = 2 * (a * p) := by rw [Int.mul_comm a 2, Int.mul_assoc]
  have e6 : b * 2 * q = 2 * (b * q) := by rw [Int.mul_comm b 2, Int.mul_assoc]
  rw [e1, e2, e3, e4, e5, e6, Bool.eq_iff_iff]
  simp only [Bool.false_or, Bool.and_eq_true, Bool.or_eq_true, decide_eq_true_eq]
  simp only [sz]
  generalize a * p = x
  generalize b * q = y
  constructor
  · rintro ⟨((h1 | h1) | h1) | h1, ((h2 | h2) | h2) | h2⟩ <;> omega
  · intro h
    rcases Int.lt_or_le a 0 with ha | ha <;> rcases Int.lt_or_le b 0 with hb | hb <;> constructor <;> omega
theorem abK4 (r : Ry) (c : Cel) : (abK r c 4 && beK r c 4) = decide (sz (r.mid c.1 c.2) < sz r.dx + sz r.dy) := by
  have h := sides (c.2 - r.1.2) (c.1 - r.1.1) r.dx r.dy
  rw [Ry.mid, ← h]
  have e1 : 2 * r.2.1.1 + 1 - (2 * r.1.1 + 1) = 2 * r.dx := by rw [Ry.dx]; omega
  have e2 : 2 * r.2.1.2 + 1 - (2 * r.1.2 + 1) = 2 * r.dy := by rw [Ry.dy]; omega
  have a1 : 2 * c.2 + 2 * 0 - (2 * r.1.2 + 1) = 2 * (c.2 - r.1.2) - 1 := by omega
  have a2 : 2 * c.2 + 2 * 1 - (2 * r.1.2 + 1) = 2 * (c.2 - r.1.2) + 1 := by omega
  have a3 : 2 * c.1 + 2 * 0 - (2 * r.1.1 + 1) = 2 * (c.1 - r.1.1) - 1 := by omega
  have a4 : 2 * c.1 + 2 * 1 - (2 * r.1.1 + 1) = 2 * (c.1 - r.1.1) + 1 := by omega
  have s0 : sdK r c 0 = 2 * r.dx * (2 * (c.2 - r.1.2) - 1) - 2 * r.dy * (2 * (c.1 - r.1.1) - 1) := by rw [← a1, ← a3, ← e1, ← e2]; rfl
  have s1 : sdK r c 1 = 2 * r.dx * (2 * (c.2 - r.1.2) - 1) - 2 * r.dy * (2 * (c.1 - r.1.1) + 1) := by rw [← a1, ← a4, ← e1, ← e2]; rfl
  have s2 : sdK r c 2 = 2 * r.dx * (2 * (c.2 - r.1.2) + 1) - 2 * r.dy * (2 * (c.1 - r.1.1) - 1) := by rw [← a2, ← a3, ← e1, ← e2]; rfl
  have s3 : sdK r c 3 = 2 * r.dx * (2 * (c.2 - r.1.2) + 1) - 2 * r.dy * (2 * (c.1 - r.1.1) + 1) := by rw [← a2, ← a4, ← e1, ← e2]; rfl
  rw [← s0, ← s1, ← s2, ← s3]; rfl
/-- A cell in the rectangle of both ends. -/
abbrev inR (r : Ry) (c : Cel) : Prop := (r.x0 ≤ c.1 ∧ c.1 < r.x0 + r.wn) ∧ r.y0 ≤ c.2 ∧ c.2 < r.y0 + r.hn
theorem C123 {r : Ry} {c : Pr} : (ryOk r 12 12 ∧ inG c 12 12) → PFD Tryz.prog 123 [ryv r, pr c] (vbl (decide (c ∈ crS r))) := fun ⟨hO, hc⟩ => by
  have e : decide (c ∈ crS r) = (decide (inR r c) && (decide (r.1.1 = r.2.1.1 ∧ r.1.2 = r.2.1.2) || abK r c 4 && beK r c 4)) := by
    rw [abK4, Bool.eq_iff_iff]
    simp only [Bool.and_eq_true, Bool.or_eq_true, decide_eq_true_eq]
    rw [crS_mem, crs, decide_eq_true_eq]
    simp only [Ry.dx, Ry.dy]
    constructor
    · rintro ⟨h1, h2⟩; exact ⟨h2, by omega⟩
    · rintro ⟨h1, h2⟩; exact ⟨by omega, h1⟩
  rw [e]
  obtain ⟨⟨fx, fy⟩, ⟨tx, ty⟩, b⟩ := r
  obtain ⟨cx, cy⟩ := c
  simp only [ryOk, inG] at hO hc
  have hR : inR ((fx, fy), (tx, ty), b) (cx, cy) ↔ (min fx tx ≤ cx ∧ cx ≤ max fx tx) ∧ min fy ty ≤ cy ∧ cy ≤ max fy ty := by
    simp only [inR, Ry.x0, Ry.y0, Ry.wn, Ry.hn, Ry.dx, Ry.dy, sz]; omega
  refine pi1 fn123 ?_
  (repeat' first | (refine Owe.same ?_; first | refine Owe.o ?_ | refine Owe.mk ?_ ?_) | (refine Fork.same ?_; (first | refine fkD ?_ ?_ | refine fkN ?_ ?_ | refine fkM ?_ ?_) <;> intro h) | refine MvQ.stay ?_)
  · have h9 : ¬ inR ((fx, fy), (tx, ty), b) (cx, cy) := by rw [hR]; simp only at h; omega
    (refine rqK rfl ?_; (repeat' first | exact rfl | (refine qS ?_; constructor)))
    rw [decide_eq_false h9]; rfl
  · have h9 : ¬ inR ((fx, fy), (tx, ty), b) (cx, cy) := by rw [hR]; simp only at h; omega
    (refine rqK rfl ?_; (repeat' first | exact rfl | (refine qS ?_; constructor)))
    rw [decide_eq_false h9]; rfl
  · have h9 : ¬ inR ((fx, fy), (tx, ty), b) (cx, cy) := by rw [hR]; simp only at h; omega
    (refine rqK rfl ?_; (repeat' first | exact rfl | (refine qS ?_; constructor)))
    rw [decide_eq_false h9]; rfl
  · have h9 : ¬ inR ((fx, fy), (tx, ty), b) (cx, cy) := by rw [hR]; simp only at h; omega
    (refine rqK rfl ?_; (repeat' first | exact rfl | (refine qS ?_; constructor)))
    rw [decide_eq_false h9]; rfl
  · rename_i h1 h2 h3
    have h9 : inR ((fx, fy), (tx, ty), b) (cx, cy) := by rw [hR]; simp only at h h1 h2 h3; omega
    rw [decide_eq_true h9, Bool.true_and]
    clear h h1 h2 h3 h9
    (repeat' first | (refine Owe.same ?_; first | refine Owe.o ?_ | refine Owe.mk ?_ ?_) | (refine Fork.same ?_; (first | refine fkD ?_ ?_ | refine fkN ?_ ?_ | refine fkM ?_ ?_) <;> intro h) | refine MvQ.stay ?_)
    refine Sat.lp0 (fun k : Nat => [(11, vi .i64 k), (9, vbl (abK ((fx, fy), (tx, ty), b) (cx, cy) k)), (10, vbl (beK ((fx, fy), (tx, ty), b) (cx, cy) k)), (5, vi .i64 (2 * fx + 1)), (6, vi .i64 (2 * fy + 1)), (7, vi .i64 (2 * tx + 1)), (8, vi .i64 (2 * ty + 1)), (2, .c (.rp (r5 ((fx, fy), (tx, ty), b)))), (3, .c (.rp (r2 (cx, cy))))]) (fun k => k ≤ 4) (fun k => 4 - k) 0 (by decide) (by ((first | refine qen ?_ | refine qvs ?_ | refine qeq ?_ | refine qst ?_ | refine qv ?_ | refine qc ?_ | refine qe ?_ | refine qcs ?_ | skip); (repeat' first | exact rfl | (refine qS ?_; constructor)))) ?_
    intro k hk
    refine Fork.dec (fun hlt => ?_) (fun hlt => ?_)
    · have hlt : k < 4 := by omega
      have e1 : 0 ≤ (k : Int).tmod 2 ∧ (k : Int).tmod 2 ≤ 1 := by rw [Int.tmod_eq_emod_of_nonneg (by omega)]; omega
      have e2 : 0 ≤ (k : Int).tdiv 2 ∧ (k : Int).tdiv 2 ≤ 1 := by rw [Int.tdiv_eq_ediv_of_nonneg (by omega)]; omega
      have m1 := mbd (a := 2 * tx + 1 - (2 * fx + 1)) (b := 2 * cy + 2 * (k : Int).tdiv 2 - (2 * fy + 1)) (A := 100) (B := 100) (by omega) (by omega)
      have m2 := mbd (a := 2 * ty + 1 - (2 * fy + 1)) (b := 2 * cx + 2 * (k : Int).tmod 2 - (2 * fx + 1)) (A := 100) (B := 100) (by omega) (by omega)
      (repeat' first | (refine Owe.same ?_; first | refine Owe.o ?_ | refine Owe.mk ?_ ?_) | (refine Fork.same ?_; (first | refine fkD ?_ ?_ | refine fkN ?_ ?_ | refine fkM ?_ ?_) <;> intro h) | refine MvQ.stay ?_)
      all_goals (refine again0 (k + 1) hlt (by omega) ?_; ((first | refine qen ?_ | refine qvs ?_ | refine qeq ?_ | refine qst ?_ | refine qv ?_ | refine qc ?_ | refine qe ?_ | refine qcs ?_ | skip); (repeat' first | exact rfl | (refine qS ?_; constructor))))
      all_goals (simp only [abK, beK, *, Bool.true_or, Bool.false_or] <;> rfl)
    · have : k = 4 := by omega
      subst this
      (repeat' first | (refine Owe.same ?_; first | refine Owe.o ?_ | refine Owe.mk ?_ ?_) | (refine Fork.same ?_; (first | refine fkD ?_ ?_ | refine fkN ?_ ?_ | refine fkM ?_ ?_) <;> intro h) | refine MvQ.stay ?_)
      · have h : (decide (fx = tx) && decide (fy = ty)) = true := h
        rw [← Bool.decide_and, decide_eq_true_eq] at h
        (refine rqK rfl ?_; (repeat' first | exact rfl | (refine qS ?_; constructor)))
        rw [decide_eq_true h]; rfl
      · rename_i h1
        have h1 : (decide (fx = tx) && decide (fy = ty)) = false := h1
        rw [← Bool.decide_and, decide_eq_false_iff_not] at h1
        (refine rqK rfl ?_; (repeat' first | exact rfl | (refine qS ?_; constructor)))
        rw [decide_eq_false h1, h]; rfl
      · rename_i h1
        have h1 : (decide (fx = tx) && decide (fy = ty)) = false := h1
        rw [← Bool.decide_and, decide_eq_false_iff_not] at h1
        (refine rqK rfl ?_; (repeat' first | exact rfl | (refine qS ?_; constructor)))
        rw [decide_eq_false h1, h]; rfl
end Go.Pw

set_option linter.unusedSimpArgs false
namespace Go.Pw
set_option maxRecDepth 2000
open Go Go.Proofs A1 A2 A3 A4
abbrev grdE (w g : Int) : Int := unl ((1 ≤ w ∧ w ≤ 12) ∧ 1 ≤ g ∧ g ≤ 12) 2
theorem C113 {w g : Int} : PFD Tryz.prog 113 [vi .i64 w, vi .i64 g] (vi .i64 (grdE w g)) := by
  refine pi1 fn113 ?_
  (repeat' first | (refine Owe.same ?_; first | refine Owe.o ?_ | refine Owe.mk ?_ ?_) | (refine Fork.same ?_; (first | refine fkD ?_ ?_ | refine fkN ?_ ?_ | refine fkM ?_ ?_) <;> intro h) | ((first | refine OpsL.same ?_ | refine OpsDL.same ?_); first | refine pK C14 rfl rfl ?_) | refine MvQ.stay ?_)
  · (refine rqK rfl ?_; (repeat' first | exact rfl | (refine qS ?_; constructor)))
    rw [grdE, unl, decide_eq_false fun hh => h hh.1]; rfl
  · (refine rqK rfl ?_; (repeat' first | exact rfl | (refine qS ?_; constructor)))
    rw [grdE, unl, decide_eq_false fun hh => h hh.2]; rfl
  · rename_i h1
    (refine rqK rfl ?_; (repeat' first | exact rfl | (refine qS ?_; constructor)))
    rw [grdE, unl, decide_eq_true ⟨h1, h⟩]; rfl
theorem eachE_e {α : Type} {f : α → Int} {d : α} {l : List α} {k : Nat} (h : ∀ i, i < k → f (l.getD i d) = 0) (hk : k < l.length) (hx : ¬ f (l.getD k d) = 0) : eachE f 0 l = ((k : Int), f (l.getD k d)) := by
  have : ∀ j, j ≤ k → eachE f 0 l = eachE f j (l.drop j) := fun j => by
    induction j with
    | zero => intro _; simp
    | succ j ih => intro hj; rw [ih (by omega), eachE_drop _ d l j (by omega), if_pos (h j (by omega))]
  rw [this k (Nat.le_refl _), eachE_drop _ d l k hk, if_neg hx]
theorem eachE_z {α : Type} {f : α → Int} {d : α} {l : List α} (h : ∀ i, i < l.length → f (l.getD i d) = 0) : eachE f 0 l = (0, 0) := by
  have h1 : (eachE f 0 l).2 = 0 := eachE_ok.2 fun x hx => by
    obtain ⟨i, hi, rfl⟩ := List.getElem_of_mem hx
    have := h i hi
    rwa [List.getD_eq_getElem?_getD, List.getElem?_eq_getElem hi] at this
  exact Prod.ext (eachE_fst h1) h1
theorem C60 {s : Sc} : PFD Tryz.prog 60 [scv s] (.tup [vi .i64 (scE s).1, vi .i64 (scE s).2]) := by
  obtain ⟨w, g, l⟩ := s
  have c87 := C113 (w := w) (g := g)
  by_cases h0 : (1 ≤ w ∧ w ≤ 12) ∧ 1 ≤ g ∧ g ≤ 12
  · rw [show grdE w g = 0 from (unl0 (by decide)).2 h0] at c87
    by_cases h1 : l.length ≤ 10
    · have hg : gridE w g l.length = 0 := gridE_ok.2 ⟨h0, by omega⟩
      have he : scE (w, g, l) = eachE (fun r => unl (ryOk r w g) 6) 0 l := by rw [scE, if_pos hg]
      obtain ⟨q, hq⟩ : ∃ q, q = scE (w, g, l) := ⟨_, rfl⟩
      rw [← hq]
      rw [← hq] at he
      have h1' : ((w, g, l) : Sc).2.2.length ≤ 10 := h1
      refine pi2 fn60 ?_
      (repeat' first | (refine Owe.same ?_; first | refine Owe.o ?_ | refine Owe.mk ?_ ?_) | (refine Fork.same ?_; (first | refine fkY ?_ | refine fkF ?_ | ((first | refine fkD ?_ ?_ | refine fkN ?_ ?_ | refine fkM ?_ ?_) <;> intro h))) | ((first | refine OpsL.same ?_ | refine OpsDL.same ?_); first | refine oK c87 rfl rfl rfl ?_) | refine MvQ.stay ?_)
      refine Sat.lp0 (fun k : Nat => [(5, vi .i64 k), (1, .c (.rp (scD (w, g, l))))]) (fun k => k ≤ l.length ∧ ∀ i, i < k → unl (ryOk (l.getD i ryd) w g) 6 = 0) (fun k => l.length - k) 0 ⟨Nat.zero_le _, fun i hi => by omega⟩ (by ((first | refine qen ?_ | refine qvs ?_ | refine qeq ?_ | refine qst ?_ | refine qv ?_ | refine qc ?_ | refine qe ?_ | refine qcs ?_ | skip); (repeat' first | exact rfl | (refine qS ?_; constructor)))) ?_
      intro k hk
      refine Fork.dec (fun hlt => ?_) (fun hlt => ?_)
      · have hlt : k < l.length := Int.ofNat_lt.1 hlt
        have c45 := C114 (r := l.getD k ryd) (w := w) (g := g) ⟨by omega, by omega⟩
        have e := eachE_e (f := fun r => unl (ryOk r w g) 6) (d := ryd) hk.2 hlt
        by_cases hr : unl (ryOk (l.getD k ryd) w g) 6 = 0
        · rw [hr] at c45
          (repeat' first | (refine Owe.same ?_; first | refine Owe.o ?_ | refine Owe.mk ?_ ?_) | (refine Fork.same ?_; (first | refine fkY ?_ | refine fkF ?_ | ((first | refine fkD ?_ ?_ | refine fkN ?_ ?_ | refine fkM ?_ ?_) <;> intro h))) | ((first | refine OpsL.same ?_ | refine OpsDL.same ?_); first | refine oK c45 rfl rfl rfl ?_) | refine MvQ.stay ?_)
          refine again0 (k + 1) ⟨hlt, fun i hi => ?_⟩ (by omega) (by ((first | refine qen ?_ | refine qvs ?_ | refine qeq ?_ | refine qst ?_ | refine qv ?_ | refine qc ?_ | refine qe ?_ | refine qcs ?_ | skip); (repeat' first | exact rfl | (refine qS ?_; constructor))))
          rcases Nat.lt_succ_iff_lt_or_eq.1 hi with h9 | rfl
          · exact hk.2 i h9
          · exact hr
        · have e := e hr
          rw [he, e]
          generalize unl (ryOk (l.getD k ryd) w g) 6 = z at *
          (repeat' first | (refine Owe.same ?_; first | refine Owe.o ?_ | refine Owe.mk ?_ ?_) | (refine Fork.same ?_; (first | refine fkY ?_ | refine fkF ?_ | ((first | refine fkD ?_ ?_ | refine fkN ?_ ?_ | refine fkM ?_ ?_) <;> intro h))) | ((first | refine OpsL.same ?_ | refine OpsDL.same ?_); first | refine oK c45 rfl rfl rfl ?_) | refine MvQ.stay ?_)
          (refine rqK rfl ?_; (repeat' first | exact rfl | (refine qS ?_; constructor)))
      · have hlt : ¬ ((k : Int) < (l.length : Int)) := hlt
        have : q = (0, 0) := he.trans (eachE_z (d := ryd) fun i hi => hk.2 i (by omega))
        subst this
        (repeat' first | (refine Owe.same ?_; first | refine Owe.o ?_ | refine Owe.mk ?_ ?_) | (refine Fork.same ?_; (first | refine fkY ?_ | refine fkF ?_ | ((first | refine fkD ?_ ?_ | refine fkN ?_ ?_ | refine fkM ?_ ?_) <;> intro h))) | ((first | refine OpsL.same ?_ | refine OpsDL.same ?_); first | refine oK c87 rfl rfl rfl ?_) | refine MvQ.stay ?_)
        (refine rqK rfl ?_; (repeat' first | exact rfl | (refine qS ?_; constructor)))
    · have e : scE (w, g, l) = (0, 8) := by
        have : gridE w g l.length = 8 := by
          rw [gridE, fstE, if_pos ((unl0 (by decide)).2 h0), fstE, unl, decide_eq_false (by omega)]; rfl
        rw [scE]; simp only [this]; rfl
      rw [e]
      have h1' : ¬ ((w, g, l) : Sc).2.2.length ≤ 10 := h1
      refine pi2 fn60 ?_
      (repeat' first | (refine Owe.same ?_; first | refine Owe.o ?_ | refine Owe.mk ?_ ?_) | (refine Fork.same ?_; (first | refine fkY ?_ | refine fkF ?_ | ((first | refine fkD ?_ ?_ | refine fkN ?_ ?_ | refine fkM ?_ ?_) <;> intro h))) | ((first | refine OpsL.same ?_ | refine OpsDL.same ?_); first | refine oK c87 rfl rfl rfl ?_) | refine MvQ.stay ?_)
      (refine rqK rfl ?_; (repeat' first | exact rfl | (refine qS ?_; constructor)))
  · have e2 : grdE w g = 2 := by rw [grdE, unl, decide_eq_false h0]; rfl
    have e : scE (w, g, l) = (0, 2) := by
      have : gridE w g l.length = 2 := by
        rw [gridE, show unl ((1 ≤ w ∧ w ≤ 12) ∧ 1 ≤ g ∧ g ≤ 12) 2 = 2 from e2]; rfl
      rw [scE]; simp only [this]; rfl
    rw [e2] at c87
    rw [e]
    refine pi2 fn60 ?_
    (repeat' first | (refine Owe.same ?_; first | refine Owe.o ?_ | refine Owe.mk ?_ ?_) | (refine Fork.same ?_; (first | refine fkY ?_ | refine fkF ?_ | ((first | refine fkD ?_ ?_ | refine fkN ?_ ?_ | refine fkM ?_ ?_) <;> intro h))) | ((first | refine OpsL.same ?_ | refine OpsDL.same ?_); first | refine oK c87 rfl rfl rfl ?_) | refine MvQ.stay ?_)
    (refine rqK rfl ?_; (repeat' first | exact rfl | (refine qS ?_; constructor)))
theorem C124 {s : Sc} : PFD Tryz.prog 124 [scv s] (vi .i64 (scE s).2) := by
  refine pi1 fn124 ?_
  (repeat' first | (refine Owe.same ?_; first | refine Owe.o ?_ | refine Owe.mk ?_ ?_) | (refine Fork.same ?_; (first | refine fkD ?_ ?_ | refine fkN ?_ ?_ | refine fkM ?_ ?_) <;> intro h) | ((first | refine OpsL.same ?_ | refine OpsDL.same ?_); first | refine pK C60 rfl rfl ?_) | refine MvQ.stay ?_)
  (refine rqK rfl ?_; (repeat' first | exact rfl | (refine qS ?_; constructor)))
theorem C56 {s : Sc} : s.2.2.length ≤ 1000000 → PFD Tryz.prog 56 [scv s] (scv s) := fun h => by
  refine pi1 fn56 ?_
  (repeat' first | (refine Owe.same ?_; first | refine Owe.o ?_ | refine Owe.mk ?_ ?_) | (refine Fork.same ?_; (first | refine fkD ?_ ?_ | refine fkN ?_ ?_ | refine fkM ?_ ?_) <;> intro h) | refine MvQ.stay ?_)
  (refine rqK rfl ?_; (repeat' first | exact rfl | (refine qS ?_; constructor)))
/-- The error of two scenes that are merged. -/
def meE (a b : Sc) : Int := fstE [(scE a).2, (scE b).2, unl (a.1 = b.1 ∧ a.2.1 = b.2.1) 13, unl ((a.2.2.length : Int) + b.2.2.length ≤ 10) 8]
theorem scE_n {s : Sc} (h : (scE s).2 = 0) : s.2.2.length ≤ 10 := (scE_sc h).n
theorem C63 {a b : Sc} : PFD Tryz.prog 63 [scv a, scv b] (vi .i64 (meE a b)) := by
  have c1 := C124 (s := a)
  have c2 := C124 (s := b)
  by_cases h1 : (scE a).2 = 0
  · have n1 := scE_n h1
    by_cases h2 : (scE b).2 = 0
    · have n2 := scE_n h2
      have e : meE a b = fstE [unl (a.1 = b.1 ∧ a.2.1 = b.2.1) 13, unl ((a.2.2.length : Int) + b.2.2.length ≤ 10) 8] := by rw [meE, h1, h2, fst_z, fst_z]
      rw [e]
      rw [h1] at c1
      rw [h2] at c2
      refine pi1 fn63 ?_
      (repeat' first | (refine Owe.same ?_; first | refine Owe.o ?_ | refine Owe.mk ?_ ?_) | (refine Fork.same ?_; (first | refine fkY ?_ | refine fkF ?_ | ((first | refine fkD ?_ ?_ | refine fkN ?_ ?_ | refine fkM ?_ ?_) <;> intro h))) | ((first | refine OpsL.same ?_ | refine OpsDL.same ?_); first | refine oK c1 rfl rfl rfl ?_ | refine oK c2 rfl rfl rfl ?_) | refine MvQ.stay ?_)
      · (refine rqK rfl ?_; (repeat' first | exact rfl | (refine qS ?_; constructor)))
        rw [fst_c (by rw [unl, decide_eq_false fun hh => h hh.1]; decide), unl, decide_eq_false fun hh => h hh.1]; rfl
      · (refine rqK rfl ?_; (repeat' first | exact rfl | (refine qS ?_; constructor)))
        rw [fst_c (by rw [unl, decide_eq_false fun hh => h hh.2]; decide), unl, decide_eq_false fun hh => h hh.2]; rfl
      · rename_i h3 h4
        (refine rqK rfl ?_; (repeat' first | exact rfl | (refine qS ?_; constructor)))
        rw [show unl (a.1 = b.1 ∧ a.2.1 = b.2.1) 13 = 0 from (unl0 (by decide)).2 ⟨h3, h4⟩, fst_z, unl, decide_eq_false (by omega)]; rfl
      · rename_i h3 h4
        (refine rqK rfl ?_; (repeat' first | exact rfl | (refine qS ?_; constructor)))
        rw [show unl (a.1 = b.1 ∧ a.2.1 = b.2.1) 13 = 0 from (unl0 (by decide)).2 ⟨h3, h4⟩, fst_z, unl, decide_eq_true (by omega)]; rfl
    · have e : meE a b = (scE b).2 := by rw [meE, h1, fst_z, fst_c h2]
      rw [e]
      rw [h1] at c1
      generalize (scE b).2 = y at *
      refine pi1 fn63 ?_
      (repeat' first | (refine Owe.same ?_; first | refine Owe.o ?_ | refine Owe.mk ?_ ?_) | (refine Fork.same ?_; (first | refine fkY ?_ | refine fkF ?_ | ((first | refine fkD ?_ ?_ | refine fkN ?_ ?_ | refine fkM ?_ ?_) <;> intro h))) | ((first | refine OpsL.same ?_ | refine OpsDL.same ?_); first | refine oK c1 rfl rfl rfl ?_ | refine oK c2 rfl rfl rfl ?_) | refine MvQ.stay ?_)
      (refine rqK rfl ?_; (repeat' first | exact rfl | (refine qS ?_; constructor)))
  · have e : meE a b = (scE a).2 := fst_c h1
    rw [e]
    generalize (scE a).2 = x at *
    refine pi1 fn63 ?_
    (repeat' first | (refine Owe.same ?_; first | refine Owe.o ?_ | refine Owe.mk ?_ ?_) | (refine Fork.same ?_; (first | refine fkY ?_ | refine fkF ?_ | ((first | refine fkD ?_ ?_ | refine fkN ?_ ?_ | refine fkM ?_ ?_) <;> intro h))) | ((first | refine OpsL.same ?_ | refine OpsDL.same ?_); first | refine oK c1 rfl rfl rfl ?_) | refine MvQ.stay ?_)
    (refine rqK rfl ?_; (repeat' first | exact rfl | (refine qS ?_; constructor)))
abbrev rR (l : List Ry) : List D := [rysD l]
abbrev rrs (L : List (List Ry)) : C := slv 1 rR [] L
theorem flat_take {L : List (List Ry)} {k : Nat} (h : k < L.length) : (L.take (k + 1)).flatten = (L.take k).flatten ++ L.getD k [] := by
  rw [List.take_add_one, List.flatten_append, List.getElem?_eq_getElem h, List.getD_eq_getElem?_getD, List.getElem?_eq_getElem h]; simp
theorem flat_le {L : List (List Ry)} (k : Nat) : (L.take k).flatten.length ≤ L.flatten.length := by
  have : L.flatten = (L.take k).flatten ++ (L.drop k).flatten := by rw [← List.flatten_append, List.take_append_drop]
  rw [this]; simp
theorem C121 {L : List (List Ry)} : (L.length ≤ 1000000 ∧ L.flatten.length ≤ 1000000) → PFD Tryz.prog 121 [.c (rrs L)] (.c (rys L.flatten)) := fun ⟨hL, hF⟩ => by
  have hfl := flat_le (L := L)
  refine pi1 fn121 ?_
  (repeat' first | (refine Owe.same ?_; first | refine Owe.o ?_ | refine Owe.mk ?_ ?_) | (refine Fork.same ?_; (first | refine fkD ?_ ?_ | refine fkN ?_ ?_ | refine fkM ?_ ?_) <;> intro h) | refine MvQ.stay ?_)
  refine Sat.lp0 (fun k : Nat => [(11, vi .i64 k), (10, vi .i64 L.length), (9, .c (rrs L)), (0, .c (rrs L)), (3, vi .i64 (L.take k).flatten.length)]) (fun k => k ≤ L.length) (fun k => L.length - k) 0 (Nat.zero_le _) (by ((first | refine qen ?_ | refine qvs ?_ | refine qeq ?_ | refine qst ?_ | refine qv ?_ | refine qc ?_ | refine qe ?_ | refine qcs ?_ | skip); (repeat' first | exact rfl | (refine qS ?_; constructor)))) ?_
  intro k hk
  refine Fork.dec (fun hlt => ?_) (fun hlt => ?_)
  · have hlt : k < L.length := by omega
    have e := flat_take hlt
    have e1 := congrArg List.length e
    rw [List.length_append] at e1
    have h1 := hfl (k + 1)
    have h2 := hfl k
    (repeat' first | (refine Owe.same ?_; first | refine Owe.o ?_ | refine Owe.mk ?_ ?_) | (refine Fork.same ?_; (first | refine fkY ?_ | refine fkF ?_ | ((first | refine fkD ?_ ?_ | refine fkN ?_ ?_ | refine fkM ?_ ?_) <;> intro h))) | ((first | refine OpsL.same ?_ | refine OpsDL.same ?_); first | refine oK C113 rfl rfl rfl ?_) | refine MvQ.stay ?_)
    refine again0 (k + 1) hlt (by omega) ?_
    rw [e1]
    ((first | refine qen ?_ | refine qvs ?_ | refine qeq ?_ | refine qst ?_ | refine qv ?_ | refine qc ?_ | refine qe ?_ | refine qcs ?_ | skip); (repeat' first | exact rfl | (refine qS ?_; constructor)))
  · have : k = L.length := by omega
    subst this
    have e0 : (L.take L.length).flatten = L.flatten := by rw [List.take_length]
    rw [e0]
    (repeat' first | (refine Owe.same ?_; first | refine Owe.o ?_ | refine Owe.mk ?_ ?_) | (refine Fork.same ?_; (first | refine fkD ?_ ?_ | refine fkN ?_ ?_ | refine fkM ?_ ?_) <;> intro h) | refine MvQ.stay ?_)
    refine Ops.cs rfl rfl (CallS.of fn157 rfl ?_)
    by_cases h0 : L.flatten.length = 0
    · (repeat' first | (refine Owe.same ?_; first | refine Owe.o ?_ | refine Owe.mk ?_ ?_) | (refine Fork.same ?_; (first | refine fkY ?_ | refine fkF ?_ | ((first | refine fkD ?_ ?_ | refine fkN ?_ ?_ | refine fkM ?_ ?_) <;> intro h))) | ((first | refine OpsL.same ?_ | refine OpsDL.same ?_); first | refine oK C113 rfl rfl rfl ?_) | refine MvQ.stay ?_)
      refine Sat.nilS 6 151 5 (fun i => r5 (([] : List Ry).getD i ryd)) rfl ?_
      refine Sat.lp (fun k : Nat => ⟨[(27, vi .i64 k), (26, vi .i64 L.length), (25, .c (rrs L)), (6, .c (.ms 0 (L.take k).flatten.length))], [(0, rowv 151 5 r5 ryd (L.take k).flatten)], 1⟩)
        (fun k => k ≤ L.length) (fun k => L.length - k) 0 [0] (Nat.zero_le _) ?_ ?_
      · (refine qis ?_ ?_ <;> (repeat' first | exact rfl | (refine qS ?_; constructor)))
      · intro k hk
        refine Fork.dec (fun hlt => ?_) (fun hlt => ?_)
        · have hlt : k < L.length := by omega
          have e := flat_take hlt
          have e1 := congrArg List.length e
          rw [List.length_append] at e1
          have h1 := hfl (k + 1)
          (repeat' first | (refine Owe.same ?_; first | refine Owe.o ?_ | refine Owe.mk ?_ ?_) | (refine Fork.same ?_; (first | refine fkY ?_ | refine fkF ?_ | ((first | refine fkD ?_ ?_ | refine fkN ?_ ?_ | refine fkM ?_ ?_) <;> intro h))) | ((first | refine OpsL.same ?_ | refine OpsDL.same ?_); first | refine oK C113 rfl rfl rfl ?_) | refine MvQ.stay ?_)
          refine again (k + 1) [1] hlt (by omega) ?_
          (refine qis ?_ ?_ <;> (repeat' first | exact rfl | (refine qS ?_; constructor)))
          · exact e1.symm
          · exact e
        · have : k = L.length := by omega
          subst this
          (repeat' first | (refine Owe.same ?_; first | refine Owe.o ?_ | refine Owe.mk ?_ ?_) | (refine Fork.same ?_; (first | refine fkY ?_ | refine fkF ?_ | ((first | refine fkD ?_ ?_ | refine fkN ?_ ?_ | refine fkM ?_ ?_) <;> intro h))) | ((first | refine OpsL.same ?_ | refine OpsDL.same ?_); first | refine oK C113 rfl rfl rfl ?_) | refine MvQ.stay ?_)
          rw [← e0]
          refine rqF 0 _ rfl rfl rfl ?_; (repeat' first | exact rfl | (refine qS ?_; constructor))
    · (repeat' first | (refine Owe.same ?_; first | refine Owe.o ?_ | refine Owe.mk ?_ ?_) | (refine Fork.same ?_; (first | refine fkY ?_ | refine fkF ?_ | ((first | refine fkD ?_ ?_ | refine fkN ?_ ?_ | refine fkM ?_ ?_) <;> intro h))) | ((first | refine OpsL.same ?_ | refine OpsDL.same ?_); first | refine oK C113 rfl rfl rfl ?_) | refine MvQ.stay ?_)
      refine Sat.lp (fun k : Nat => ⟨[(27, vi .i64 k), (26, vi .i64 L.length), (25, .c (rrs L)), (6, .c (.ms 0 (L.take k).flatten.length))], [(0, rowv 151 5 r5 ryd (L.take k).flatten)], 1⟩)
        (fun k => k ≤ L.length) (fun k => L.length - k) 0 [1] (Nat.zero_le _) ?_ ?_
      · (refine qis ?_ ?_ <;> (repeat' first | exact rfl | (refine qS ?_; constructor)))
      · intro k hk
        refine Fork.dec (fun hlt => ?_) (fun hlt => ?_)
        · have hlt : k < L.length := by omega
          have e := flat_take hlt
          have e1 := congrArg List.length e
          rw [List.length_append] at e1
          have h1 := hfl (k + 1)
          (repeat' first | (refine Owe.same ?_; first | refine Owe.o ?_ | refine Owe.mk ?_ ?_) | (refine Fork.same ?_; (first | refine fkY ?_ | refine fkF ?_ | ((first | refine fkD ?_ ?_ | refine fkN ?_ ?_ | refine fkM ?_ ?_) <;> intro h))) | ((first | refine OpsL.same ?_ | refine OpsDL.same ?_); first | refine oK C113 rfl rfl rfl ?_) | refine MvQ.stay ?_)
          refine again (k + 1) [1] hlt (by omega) ?_
          (refine qis ?_ ?_ <;> (repeat' first | exact rfl | (refine qS ?_; constructor)))
          · exact e1.symm
          · exact e
        · have : k = L.length := by omega
          subst this
          (repeat' first | (refine Owe.same ?_; first | refine Owe.o ?_ | refine Owe.mk ?_ ?_) | (refine Fork.same ?_; (first | refine fkY ?_ | refine fkF ?_ | ((first | refine fkD ?_ ?_ | refine fkN ?_ ?_ | refine fkM ?_ ?_) <;> intro h))) | ((first | refine OpsL.same ?_ | refine OpsDL.same ?_); first | refine oK C113 rfl rfl rfl ?_) | refine MvQ.stay ?_)
          rw [← e0]
          refine rqF 0 _ rfl rfl rfl ?_; (repeat' first | exact rfl | (refine qS ?_; constructor))
/-- Two scenes merged. -/
def meR (a b : Sc) : Sc × Int := if meE a b = 0 then ((a.1, a.2.1, a.2.2 ++ b.2.2), 0) else ((0, 0, []), meE a b)
theorem C59 {a b : Sc} : (a.2.2.length ≤ 1000000 ∧ b.2.2.length ≤ 1000000) → PFD Tryz.prog 59 [scv a, scv b] (.tup [scv (meR a b).1, vi .i64 (meR a b).2]) := fun ⟨ha, hb⟩ => by
  have c1 := C119 ha
  have c2 := C119 hb
  have c72 := C121 (L := [a.2.2, b.2.2])
  rw [show [a.2.2, b.2.2].flatten = a.2.2 ++ b.2.2 by simp] at c72
  have hb1 : a.1 = b.1 → fstE [(scE a).2, (scE b).2, unb (decide (a.2.1 = b.2.1)) 13, unb (decide ((a.2.2.length : Int) + b.2.2.length ≤ 10)) 8] = meE a b := fun h => by
    rw [meE]
    simp only [unl]
    rw [show decide (a.1 = b.1 ∧ a.2.1 = b.2.1) = decide (a.2.1 = b.2.1) from decide_eq_decide.2 ⟨fun h2 => h2.2, fun h2 => ⟨h, h2⟩⟩]
  have hb2 : ¬ a.1 = b.1 → fstE [(scE a).2, (scE b).2, unb false 13, unb (decide ((a.2.2.length : Int) + b.2.2.length ≤ 10)) 8] = meE a b := fun h => by
    rw [meE]
    simp only [unl]
    rw [show decide (a.1 = b.1 ∧ a.2.1 = b.2.1) = false from decide_eq_false fun hh => h hh.1]
  by_cases h0 : meE a b = 0
  · have hr : meR a b = ((a.1, a.2.1, a.2.2 ++ b.2.2), 0) := by rw [meR, if_pos h0]
    rw [hr]
    have hl : a.2.2.length + b.2.2.length ≤ 10 := by
      rw [meE, fst0, fst0, fst2] at h0
      have := (unl0 (by decide)).1 h0.2.2.2
      omega
    have c72 := c72 ⟨by simp, by simp; omega⟩
    generalize (scE a).2 = x at *
    generalize (scE b).2 = y at *
    generalize a.2.2 ++ b.2.2 = M at *
    refine pi2 fn59 ?_
    (repeat' first | (refine Owe.same ?_; first | refine Owe.o ?_ | refine Owe.mk ?_ ?_) | (refine Fork.same ?_; (first | refine fkD ?_ ?_ | refine fkN ?_ ?_ | refine fkM ?_ ?_) <;> intro h) | refine MvQ.stay ?_)
    ((first | refine OpsL.same ?_ | refine OpsDL.same ?_); first | refine pK c1 rfl rfl ?_)
    (repeat' first | (refine Owe.same ?_; first | refine Owe.o ?_ | refine Owe.mk ?_ ?_) | (refine Fork.same ?_; (first | refine fkD ?_ ?_ | refine fkN ?_ ?_ | refine fkM ?_ ?_) <;> intro h) | refine MvQ.stay ?_)
    ((first | refine OpsL.same ?_ | refine OpsDL.same ?_); first | refine pK c2 rfl rfl ?_)
    (repeat' first | (refine Owe.same ?_; first | refine Owe.o ?_ | refine Owe.mk ?_ ?_) | (refine Fork.same ?_; (first | refine fkD ?_ ?_ | refine fkN ?_ ?_ | refine fkM ?_ ?_) <;> intro h) | ((first | refine OpsL.same ?_ | refine OpsDL.same ?_); first | refine pK C85 rfl rfl ?_ | refine pK C71 rfl rfl ?_) | refine MvQ.stay ?_)
    all_goals rename_i h1
    · exact absurd ((hb1 h1).trans h0) h
    · (repeat' first | (refine Owe.same ?_; first | refine Owe.o ?_ | refine Owe.mk ?_ ?_) | (refine Fork.same ?_; (first | refine fkD ?_ ?_ | refine fkN ?_ ?_ | refine fkM ?_ ?_) <;> intro h) | ((first | refine OpsL.same ?_ | refine OpsDL.same ?_); first | refine pK c72 rfl rfl ?_) | refine MvQ.stay ?_)
      (refine rqK rfl ?_; (repeat' first | exact rfl | (refine qS ?_; constructor)))
    · exact absurd ((hb2 h1).trans h0) h
    · (repeat' first | (refine Owe.same ?_; first | refine Owe.o ?_ | refine Owe.mk ?_ ?_) | (refine Fork.same ?_; (first | refine fkD ?_ ?_ | refine fkN ?_ ?_ | refine fkM ?_ ?_) <;> intro h) | ((first | refine OpsL.same ?_ | refine OpsDL.same ?_); first | refine pK c72 rfl rfl ?_) | refine MvQ.stay ?_)
      (refine rqK rfl ?_; (repeat' first | exact rfl | (refine qS ?_; constructor)))
  · have hr : meR a b = ((0, 0, []), meE a b) := by rw [meR, if_neg h0]
    rw [hr]
    generalize (scE a).2 = x at *
    generalize (scE b).2 = y at *
    refine pi2 fn59 ?_
    (repeat' first | (refine Owe.same ?_; first | refine Owe.o ?_ | refine Owe.mk ?_ ?_) | (refine Fork.same ?_; (first | refine fkD ?_ ?_ | refine fkN ?_ ?_ | refine fkM ?_ ?_) <;> intro h) | refine MvQ.stay ?_)
    ((first | refine OpsL.same ?_ | refine OpsDL.same ?_); first | refine pK c1 rfl rfl ?_)
    (repeat' first | (refine Owe.same ?_; first | refine Owe.o ?_ | refine Owe.mk ?_ ?_) | (refine Fork.same ?_; (first | refine fkD ?_ ?_ | refine fkN ?_ ?_ | refine fkM ?_ ?_) <;> intro h) | refine MvQ.stay ?_)
    ((first | refine OpsL.same ?_ | refine OpsDL.same ?_); first | refine pK c2 rfl rfl ?_)
    (repeat' first | (refine Owe.same ?_; first | refine Owe.o ?_ | refine Owe.mk ?_ ?_) | (refine Fork.same ?_; (first | refine fkD ?_ ?_ | refine fkN ?_ ?_ | refine fkM ?_ ?_) <;> intro h) | ((first | refine OpsL.same ?_ | refine OpsDL.same ?_); first | refine pK C85 rfl rfl ?_ | refine pK C71 rfl rfl ?_) | refine MvQ.stay ?_)
    all_goals rename_i h1
    · (refine rqK rfl ?_; (repeat' first | exact rfl | (refine qS ?_; constructor)))
      exact hb1 h1
    · exact absurd ((hb1 h1).symm.trans h) h0
    · (refine rqK rfl ?_; (repeat' first | exact rfl | (refine qS ?_; constructor)))
      exact hb2 h1
    · exact absurd ((hb2 h1).symm.trans h) h0
end Go.Pw

set_option linter.unusedSimpArgs false
namespace Go.Pw
set_option maxRecDepth 2000
open Go Go.Proofs A1 A2 A3 A4
theorem or4 {a : Int} (h : 0 ≤ a ∧ a ≤ 3) : a = 0 ∨ a = 1 ∨ a = 2 ∨ a = 3 := by omega
theorem orI_assoc {a b c : Int} (ha : 0 ≤ a ∧ a ≤ 3) (hb : 0 ≤ b ∧ b ≤ 3) (hc : 0 ≤ c ∧ c ≤ 3) : orI (orI a b) c = orI a (orI b c) := by
  rcases or4 ha with rfl | rfl | rfl | rfl <;> rcases or4 hb with rfl | rfl | rfl | rfl <;> rcases or4 hc with rfl | rfl | rfl | rfl <;> decide
theorem orI_0 {a : Int} (ha : 0 ≤ a ∧ a ≤ 3) : orI a 0 = a := by
  rcases or4 ha with rfl | rfl | rfl | rfl <;> decide
/-- What the cells of a list give to one cell. -/
def cbU (w : Int) (r : Ry) (i : Nat) : List Cel → Int
  | [] => 0
  | c :: l => orI (if cellN w c = i then stC r c else 0) (cbU w r i l)
theorem cbU_bd {w : Int} {r : Ry} {i : Nat} : ∀ l, 0 ≤ cbU w r i l ∧ cbU w r i l ≤ 3
  | [] => by simp [cbU]
  | c :: l => by
    rw [cbU]
    refine orI_bd ?_ (cbU_bd l)
    split
    · exact stC_bd
    · decide
theorem foldU_or {w : Int} {r : Ry} {i : Nat} : ∀ (l : List Cel) (out : List Int), i < out.length → (∀ i, 0 ≤ out.getD i 0 ∧ out.getD i 0 ≤ 3) → (l.foldl (updS w r) out).getD i 0 = orI (out.getD i 0) (cbU w r i l)
  | [], out, _, hb => (orI_0 (hb i)).symm
  | c :: l, out, hi, hb => by
    have hd : 0 ≤ (if cellN w c = i then stC r c else 0) ∧ (if cellN w c = i then stC r c else 0) ≤ 3 := by
      split
      · exact stC_bd
      · decide
    rw [List.foldl_cons, foldU_or l (updS w r out c) (by rw [updS, List.length_set]; exact hi) (updS_bd hb), cbU, ← orI_assoc (hb i) hd (cbU_bd l)]
    congr 1
    rw [updS, List.getD_eq_getElem?_getD, List.getElem?_set]
    by_cases h : cellN w c = i
    · rw [if_pos h, if_pos h, if_pos (by rw [h]; exact hi), h]; rfl
    · rw [if_neg h, if_neg h, ← List.getD_eq_getElem?_getD, orI_0 (hb i)]
/-- What a ray gives to a cell. -/
abbrev cbR (w : Int) (i : Nat) (r : Ry) : Int := cbU w r i (crS r)
theorem stS_len {s : Sc} {wo : List Int} : (stS s wo).length = (s.1 * s.2.1).toNat := stK_len _
end Go.Pw

set_option linter.unusedSimpArgs false
namespace Go.Pw
set_option maxRecDepth 2000
open Go Go.Proofs A1 A2 A3 A4
theorem OpsL.frzA {P : Program} [Mix P] {N base : Nat} {ops : List LIns} {K : St → Prop} {env : List (Nat × V)} {σ : Store} {nx : Nat} (t j id : Nat) {cs : List C} {n : Nat} {e : TypeId} {s m : Nat} {f : Nat → List D} {fz : Bool} (h : lk env t = .agg cs) (hj : cs[j]? = some (.ms id n)) (hg : get σ id = some (.row e s m f fz)) (hn : n ≤ m)
    (k : frS (set σ id (.row e s m f true)) fun σ' => OpsL P N base ops ⟨(t, .agg (putAt cs j (.d (.sl s n f)))) :: env, σ', nx⟩ K) : OpsL P N base ops ⟨env, σ, nx⟩ K := by
  rw [frS_eq] at k
  exact ⟨Ops.from (Mv.freezeA t j id h hj hg hn) k.h⟩
end Go.Pw

set_option linter.unusedVariables false
set_option maxHeartbeats 2000000
set_option maxRecDepth 100000
namespace Go.Pw
open Go Go.Proofs
/-- moonpool/moonpoolref04.CopyScene -/
def lc56u : LCode :=
  (.seq (.region [⟨some 1, .boxS (.tmp 0), none⟩, ⟨some 2, .alloc [(.int .i64 0), (.int .i64 0), (.slice none 0 0)], none⟩]) (.seq (.regionD [⟨some 3, .fld 0 (.tmp 1), none⟩, ⟨some
    4, .load false 1 (.tmp 3), none⟩, ⟨some 5, .fld 1 (.tmp 1), none⟩, ⟨some 6, .load false 1 (.tmp 5), none⟩, ⟨some 7, .lit false 151 5 [], none⟩, ⟨some 8, .fld 2 (.tmp 1), none⟩,
    ⟨some 9, .load false 1 (.tmp 8), none⟩, ⟨some 10, .append true 151 5 40 (.tmp 7) (.tmp 9), none⟩, ⟨some 11, .build [(.int .i64 0), (.int .i64 0), (.slice none 0 0)] [(0, 1,
    (.tmp 4)), (1, 1, (.tmp 6)), (2, 1, (.tmp 10))], none⟩, ⟨none, .store 3 (.tmp 2) (.tmp 11), none⟩] [0, 1, 0, 4, 0, 0, 32, 112, 255, 511] [0, 1, 2, 3, 4, 5, 6, 7, 8, 9]) .ret))
theorem low56u : lowF Tryz.prog [1, 10] Tryz.f56 = some (12, lc56u.strip, [.cell 2 true 3]) := by kernel_rfl
theorem fn56u : FnOk Tryz.prog 56 12 lc56u [.cell 2 true 3] := ⟨Tryz.call56, [1, 10], _, Tryz.func56, low56u⟩
end Go.Pw

set_option linter.unusedSimpArgs false
namespace Go.Pw
set_option maxRecDepth 2000
open Go Go.Proofs A1 A2 A3 A4
theorem orI_idem {a : Int} (ha : 0 ≤ a ∧ a ≤ 3) : orI a a = a := by
  rcases or4 ha with rfl | rfl | rfl | rfl <;> decide
theorem orI_0l {a : Int} (ha : 0 ≤ a ∧ a ≤ 3) : orI 0 a = a := by
  rcases or4 ha with rfl | rfl | rfl | rfl <;> decide
theorem cbU_one {w : Int} {r : Ry} {n : Nat} {c : Cel} : ∀ {l : List Cel}, (∀ x ∈ l, cellN w x = n ↔ x = c) → cbU w r n l = if c ∈ l then stC r c else 0
  | [], _ => rfl
  | x :: l, h => by
    have ih := cbU_one (r := r) (l := l) fun y hy => h y (.tail _ hy)
    have hx := h x (.head _)
    rw [cbU, ih]
    by_cases hxc : x = c
    · rw [if_pos (hx.2 hxc), hxc, if_pos (List.mem_cons_self ..)]
      split
      · exact orI_idem stC_bd
      · exact orI_0 stC_bd
    · rw [if_neg fun hh => hxc (hx.1 hh)]
      have hm : c ∈ x :: l ↔ c ∈ l := by rw [List.mem_cons]; exact ⟨fun h => h.resolve_left fun hh => hxc hh.symm, .inr⟩
      simp only [hm]
      split
      · exact orI_0l stC_bd
      · decide
/-- The cell of a number. -/
abbrev celT (w : Int) (n : Nat) : Cel := ((n : Int).tmod w, (n : Int).tdiv w)
theorem celT_eq {w : Int} (hw : 1 ≤ w) (n : Nat) : celT w n = ((n : Int) % w, (n : Int) / w) := by
  rw [celT, Int.tmod_eq_emod_of_nonneg (by omega), Int.tdiv_eq_ediv_of_nonneg (by omega)]
theorem cellN_iff {w g : Int} (hw : 1 ≤ w) {n : Nat} {x : Cel} (hx : inG x w g) : cellN w x = n ↔ x = celT w n := by
  have hb := cell_bd hx hw
  rw [celT_eq hw]
  simp only [inG] at hx
  rw [cellN]
  constructor
  · intro h
    have e : (n : Int) = x.1 + w * x.2 := by rw [Int.mul_comm]; omega
    rw [e]
    refine Prod.ext ?_ ?_
    · show x.1 = (x.1 + w * x.2) % w
      rw [Int.add_mul_emod_self_left, Int.emod_eq_of_lt hx.1.1 (by omega)]
    · show x.2 = (x.1 + w * x.2) / w
      rw [Int.add_mul_ediv_left _ _ (by omega), Int.ediv_eq_zero_of_lt hx.1.1 (by omega), Int.zero_add]
  · intro h
    subst h
    have := Int.emod_add_mul_ediv (n : Int) w
    show (((n : Int) / w) * w + (n : Int) % w).toNat = n
    rw [Int.mul_comm]; omega
theorem cbR_cell {r : Ry} {w g : Int} (hw : 1 ≤ w) (hr : ryOk r w g) (n : Nat) : cbR w n r = if celT w n ∈ crS r then stC r (celT w n) else 0 :=
  cbU_one fun _ hx => cellN_iff hw (crS_in hr hx)
/-- One more ray. -/
theorem stK_ray {s : Sc} {wo : List Int} {i k : Nat} (hi : i < (s.1 * s.2.1).toNat) : (stK s wo (k + 1)).getD i 0 = if (k : Int) ∈ wo then (stK s wo k).getD i 0 else orI ((stK s wo k).getD i 0) (cbR s.1 i (s.2.2.getD k ryd)) := by
  rw [stK]
  split
  · rfl
  · rw [stR, foldU_or _ _ (by rw [stK_len]; exact hi) (stK_bd k)]
abbrev th3 (z : Int) : Bool := decide (z = 1 ∨ z = 3)
abbrev hi3 (z : Int) : Bool := decide (z = 2 ∨ z = 3)
theorem th3_or1 {z : Int} (hz : z = 0 ∨ z = 1 ∨ z = 2 ∨ z = 3) : th3 (orI z 1) = true ∧ hi3 (orI z 1) = hi3 z := by
  rcases hz with rfl | rfl | rfl | rfl <;> decide
theorem th3_or2 {z : Int} (hz : z = 0 ∨ z = 1 ∨ z = 2 ∨ z = 3) : th3 (orI z 2) = th3 z ∧ hi3 (orI z 2) = true := by
  rcases hz with rfl | rfl | rfl | rfl <;> decide
theorem C61 {s : Sc} {wo : List Int} : (ScOk s ∧ wo.length ≤ 1000000) → PFD Tryz.prog 61 [scv s, .c (ints wo)] (.c (ints (stS s wo))) := fun ⟨hO, hwo⟩ => by
  have hw := hO.w; have hh := hO.h; have hn := hO.n
  have mwg : 1 ≤ s.1 * s.2.1 ∧ s.1 * s.2.1 ≤ 144 := by
    have h1 : (1 : Int) * 1 ≤ s.1 * s.2.1 := Int.mul_le_mul hw.1 hh.1 (by decide) (by omega)
    have h2 : s.1 * s.2.1 ≤ 12 * 12 := Int.mul_le_mul hw.2 hh.2 (by omega) (by decide)
    omega
  have hl : (stS s wo).length = (s.1 * s.2.1).toNat := stS_len
  have hZ : ∀ n, (stS s wo).getD n 0 = (stK s wo s.2.2.length).getD n 0 := fun n => rfl
  have hr : ∀ {n k : Nat}, n < (s.1 * s.2.1).toNat → k < s.2.2.length → (stK s wo (k + 1)).getD n 0 = if (k : Int) ∈ wo then (stK s wo k).getD n 0 else orI ((stK s wo k).getD n 0) (if celT s.1 n ∈ crS (s.2.2.getD k ryd) then stC (s.2.2.getD k ryd) (celT s.1 n) else 0) := fun hn hk => by
    rw [stK_ray hn, cbR_cell hw.1 (hO.r _ hk)]
  have hb : ∀ k n, 0 ≤ (stK s wo k).getD n 0 ∧ (stK s wo k).getD n 0 ≤ 3 := fun k n => stK_bd k n
  have h0 : ∀ n, n < (s.1 * s.2.1).toNat → (stK s wo 0).getD n 0 = 0 := fun n hn => by rw [stK, List.getD_eq_getElem?_getD, List.getElem?_replicate, if_pos hn]; rfl
  have hrk := hO.r
  generalize stS s wo = S at *
  refine pi1 fn61 ?_
  (repeat' first | (refine Owe.same ?_; first | refine Owe.o ?_ | refine Owe.mk ?_ ?_) | (refine Fork.same ?_; (first | refine fkD ?_ ?_ | refine fkN ?_ ?_ | refine fkM ?_ ?_) <;> intro h) | refine MvQ.stay ?_)
  refine Sat.nilS 5 3 1 (fun i => r1 (([] : List Int).getD i 0)) rfl ?_
  refine Sat.lp (fun n : Nat => ⟨[(6, vi .i64 n), (1, .c (ints wo)), (2, .c (.rp (scD s))), (5, .c (.ms 0 (S.take n).length))], [(0, rowv 3 1 r1 0 (S.take n))], 1⟩)
    (fun n => n ≤ S.length) (fun n => S.length - n) 0 [0] (Nat.zero_le _) ?_ ?_
  · (refine qis ?_ ?_ <;> (repeat' first | exact rfl | (refine qS ?_; constructor)))
  · intro n hn
    have hln : (S.take n).length = n := by rw [List.length_take]; omega
    have hltn : (n : Int) < s.1 * s.2.1 → n < S.length := fun _ => by omega
    have ht0 : 0 ≤ (n : Int).tmod s.1 ∧ (n : Int).tmod s.1 < s.1 := ⟨Int.tmod_nonneg _ (by omega), Int.tmod_lt_of_pos _ (by omega)⟩
    have htd : (n : Int).tdiv s.1 = (n : Int) / s.1 := Int.tdiv_eq_ediv_of_nonneg (by omega)
    have ht1 : 0 ≤ (n : Int) / s.1 := Int.ediv_nonneg (by omega) (by omega)
    have ht2 : (n : Int) / s.1 ≤ n := Int.ediv_le_self _ (by omega)
    have ht3 : (n : Int) < s.1 * s.2.1 → (n : Int) / s.1 < s.2.1 := fun h => Int.ediv_lt_of_lt_mul (by omega) (by rw [Int.mul_comm]; exact h)
    (repeat' first | (refine Owe.same ?_; first | refine Owe.o ?_ | refine Owe.mk ?_ ?_) | (refine Fork.same ?_; (first | refine fkD ?_ ?_ | refine fkN ?_ ?_ | refine fkM ?_ ?_) <;> intro h) | refine MvQ.stay ?_)
    · rename_i h
      have hltn := hltn h
      have ht3 := ht3 h
      have hts : ∀ z, S.getD n 0 = z → S.take (n + 1) = S.take n ++ [z] := fun z hz => by rw [← hz]; exact take_app S n hltn
      refine Sat.lp (fun k : Nat => ⟨[(10, vi .i64 k), (8, vbl (th3 ((stK s wo k).getD n 0))), (9, vbl (hi3 ((stK s wo k).getD n 0))), (7, .c (.bp 1 0)), (6, vi .i64 n), (1, .c (ints wo)), (2, .c (.rp (scD s))), (5, .c (.ms 0 (S.take n).length))], [(1, .box [int (celT s.1 n).1, int (celT s.1 n).2]), (0, rowv 3 1 r1 0 (S.take n))], 2⟩)
        (fun k => k ≤ s.2.2.length) (fun k => s.2.2.length - k) 0 [0, 10] (Nat.zero_le _) ?_ ?_
      · have e1 : th3 ((stK s wo 0).getD n 0) = false := by rw [h0 n (by omega)]; decide
        have e2 : hi3 ((stK s wo 0).getD n 0) = false := by rw [h0 n (by omega)]; decide
        simp only [e1, e2]; (refine qis ?_ ?_ <;> (repeat' first | exact rfl | (refine qS ?_; constructor)))
      · intro k hk
        have hzb := hb k n
        have hzS := hZ n
        have hts : k = s.2.2.length → S.take (n + 1) = S.take n ++ [(stK s wo k).getD n 0] := fun e => hts _ (by rw [hzS, e])
        have hrk := hrk k
        have hr := hr (n := n) (k := k) (by omega)
        generalize (stK s wo k).getD n 0 = z at *
        have hz4 : z = 0 ∨ z = 1 ∨ z = 2 ∨ z = 3 := by omega
        refine Fork.dec (fun hkl => ?_) (fun hkl => ?_)
        · have hkl : k < s.2.2.length := by omega
          have hr := hr hkl
          have hry := hrk hkl
          have hin : inG (celT s.1 n) 12 12 := by
            refine ⟨⟨ht0.1, ?_⟩, ?_, ?_⟩ <;> (simp only [celT]; omega)
          have hr12 : ryOk (s.2.2.getD k ryd) 12 12 := by simp only [ryOk, inG] at hry ⊢; omega
          have c123 := C123 (c := celT s.1 n) ⟨hr12, hin⟩
          have hto : (k : Int).toNat = k := rfl
          (repeat' first | (refine Owe.same ?_; first | refine Owe.o ?_ | refine Owe.mk ?_ ?_) | (refine Fork.same ?_; (first | refine fkD ?_ ?_ | refine fkN ?_ ?_ | refine fkM ?_ ?_) <;> intro h) | ((first | refine OpsL.same ?_ | refine OpsDL.same ?_); first | refine pK C122 rfl rfl ?_ | refine pK c123 rfl rfl ?_) | refine MvQ.stay ?_)
          · rw [if_pos h] at hr
            refine again (k + 1) [0, 1] hkl (by omega) ?_
            rw [hr]; (refine qis ?_ ?_ <;> (repeat' first | exact rfl | (refine qS ?_; constructor)))
          · rename_i h1
            rw [if_neg h1, if_neg h, orI_0 hzb] at hr
            refine again (k + 1) [0, 1] hkl (by omega) ?_
            rw [hr]; (refine qis ?_ ?_ <;> (repeat' first | exact rfl | (refine qS ?_; constructor)))
          · rename_i h1 h2 h3
            have hs : stC (s.2.2.getD k ryd) (celT s.1 n) = 2 := stC_2 h h3
            rw [if_neg h1, if_pos h2, hs] at hr
            refine again (k + 1) [0, 1] hkl (by omega) ?_
            simp only [hr, th3_or2 hz4]; (refine qis ?_ ?_ <;> (repeat' first | exact rfl | (refine qS ?_; constructor)))
          · rename_i h1 h2 h3
            have hs : stC (s.2.2.getD k ryd) (celT s.1 n) = 1 := stC_1a h
            rw [if_neg h1, if_pos h2, hs] at hr
            refine again (k + 1) [0, 1] hkl (by omega) ?_
            simp only [hr, th3_or1 hz4]; (refine qis ?_ ?_ <;> (repeat' first | exact rfl | (refine qS ?_; constructor)))
          · rename_i h1 h2
            have hs : stC (s.2.2.getD k ryd) (celT s.1 n) = 1 := stC_1b h
            rw [if_neg h1, if_pos h2, hs] at hr
            refine again (k + 1) [0, 1] hkl (by omega) ?_
            simp only [hr, th3_or1 hz4]; (refine qis ?_ ?_ <;> (repeat' first | exact rfl | (refine qS ?_; constructor)))
        · have hk' : k = s.2.2.length := by omega
          have hts := hts hk'
          rcases hz4 with rfl | rfl | rfl | rfl <;> (repeat' first | (refine Owe.same ?_; first | refine Owe.o ?_ | refine Owe.mk ?_ ?_) | (refine Fork.same ?_; (first | refine fkY ?_ | refine fkF ?_ | ((first | refine fkD ?_ ?_ | refine fkN ?_ ?_ | refine fkM ?_ ?_) <;> intro h))) | ((first | refine OpsL.same ?_ | refine OpsDL.same ?_); first | refine oK C122 rfl rfl rfl ?_) | refine MvQ.stay ?_)
          all_goals refine again (n + 1) [2] (by omega) (by omega) ?_
          all_goals rw [hts]
          all_goals (refine qis ?_ ?_ <;> (repeat' first | exact rfl | (refine qS ?_; constructor)))
          all_goals simp only [List.length_append, List.length_cons, List.length_nil]
    · have : n = S.length := by omega
      subst this
      have e : S.take S.length = S := List.take_length
      rw [e]
      refine rqF 0 _ rfl rfl rfl ?_; (repeat' first | exact rfl | (refine qS ?_; constructor))
end Go.Pw

set_option linter.unusedSimpArgs false
namespace Go.Pw
set_option maxRecDepth 2000
open Go Go.Proofs A1 A2 A3 A4
theorem C54 {s : Sc} : PFD Tryz.prog 54 [scv s] (vbl (decide ((s.2.2.length : Int) ≤ 12))) := by
  refine pi1 fn54 ?_
  (repeat' first | (refine Owe.same ?_; first | refine Owe.o ?_ | refine Owe.mk ?_ ?_) | (refine Fork.same ?_; (first | refine fkD ?_ ?_ | refine fkN ?_ ?_ | refine fkM ?_ ?_) <;> intro h) | refine MvQ.stay ?_)
  (refine rqK rfl ?_; (repeat' first | exact rfl | (refine qS ?_; constructor)))
theorem stS_144 {s : Sc} {wo : List Int} (hO : ScOk s) : (stS s wo).length ≤ 144 := by
  rw [stS, stK_len]
  have h2 : s.1 * s.2.1 ≤ 12 * 12 := Int.mul_le_mul hO.w.2 hO.h.2 (by have := hO.h; omega) (by decide)
  omega
theorem C62 {s : Sc} {wo : List Int} : (ScOk s ∧ wo.length ≤ 1000000) → PFD Tryz.prog 62 [scv s, .c (ints wo)] (.c (ints (conL (stS s wo) (stS s wo).length))) := fun hO => by
  have c61 := C61 hO
  have hSl := stS_144 (wo := wo) hO.1
  generalize stS s wo = S at *
  refine pi1 fn62 ?_
  (repeat' first | (refine Owe.same ?_; first | refine Owe.o ?_ | refine Owe.mk ?_ ?_) | (refine Fork.same ?_; (first | refine fkD ?_ ?_ | refine fkN ?_ ?_ | refine fkM ?_ ?_) <;> intro h) | ((first | refine OpsL.same ?_ | refine OpsDL.same ?_); first | refine pK c61 rfl rfl ?_) | refine MvQ.stay ?_)
  refine Sat.nilS 5 3 1 (fun i => r1 (([] : List Int).getD i 0)) rfl ?_
  refine Sat.lp (fun k : Nat => ⟨[(7, vi .i64 k), (6, .c (ints S)), (5, .c (.ms 0 (conL S k).length))], [(0, rowv 3 1 r1 0 (conL S k))], 1⟩)
    (fun k => k ≤ S.length) (fun k => S.length - k) 0 [0] (Nat.zero_le _) ?_ ?_
  · (refine qis ?_ ?_ <;> (repeat' first | exact rfl | (refine qS ?_; constructor)))
  · intro k hk
    have hc := conL_len S k
    refine Fork.dec (fun hlt => ?_) (fun hlt => ?_)
    · have hlt : k < S.length := by omega
      (repeat' first | (refine Owe.same ?_; first | refine Owe.o ?_ | refine Owe.mk ?_ ?_) | (refine Fork.same ?_; (first | refine fkD ?_ ?_ | refine fkN ?_ ?_ | refine fkM ?_ ?_) <;> intro h) | refine MvQ.stay ?_)
      · have e2 : conL S (k + 1) = conL S k ++ [(k : Int)] := by rw [conL, if_pos (show S.getD k 0 = 3 from h)]
        refine again (k + 1) [1] hlt (by omega) ?_
        (refine qis ?_ ?_ <;> (repeat' first | exact rfl | (refine qS ?_; constructor)))
        · rw [e2]; simp
        · exact e2
      · have e2 : conL S (k + 1) = conL S k := by rw [conL, if_neg (show ¬ S.getD k 0 = 3 from h)]
        refine again (k + 1) [0] hlt (by omega) ?_
        (refine qis ?_ ?_ <;> (repeat' first | exact rfl | (refine qS ?_; constructor)))
        · rw [e2]
        · exact e2.symm
    · have : k = S.length := by omega
      subst this
      (repeat' first | (refine Owe.same ?_; first | refine Owe.o ?_ | refine Owe.mk ?_ ?_) | (refine Fork.same ?_; (first | refine fkD ?_ ?_ | refine fkN ?_ ?_ | refine fkM ?_ ?_) <;> intro h) | refine MvQ.stay ?_)
      refine rqF 0 _ rfl rfl rfl ?_; (repeat' first | exact rfl | (refine qS ?_; constructor))
theorem ray_eqB {a b : Ry} : (decide (a.1.1 = b.1.1) && decide (a.1.2 = b.1.2) && decide (a.2.1.1 = b.2.1.1) && decide (a.2.1.2 = b.2.1.2) && (a.2.2 == b.2.2)) = decide (a = b) := by
  rw [Bool.eq_iff_iff]; simp [Prod.ext_iff, and_assoc]
theorem C64 {a b : Sc} : a.2.2.length < 4611686018427387904 → PFD Tryz.prog 64 [scv a, scv b] (vbl (decide (a = b))) := fun hl => by
  refine pi1 fn64 ?_
  (repeat' first | (refine Owe.same ?_; first | refine Owe.o ?_ | refine Owe.mk ?_ ?_) | (refine Fork.same ?_; (first | refine fkD ?_ ?_ | refine fkN ?_ ?_ | refine fkM ?_ ?_) <;> intro h) | refine MvQ.stay ?_)
  · (refine rqK rfl ?_; (repeat' first | exact rfl | (refine qS ?_; constructor))); simp only [decide_eq_false_iff_not]; intro he; exact h (congrArg (·.1) he)
  · (refine rqK rfl ?_; (repeat' first | exact rfl | (refine qS ?_; constructor))); simp only [decide_eq_false_iff_not]; intro he; exact h (congrArg (·.2.1) he)
  · (refine rqK rfl ?_; (repeat' first | exact rfl | (refine qS ?_; constructor))); simp only [decide_eq_false_iff_not]; intro he; subst he; exact h rfl
  · rename_i h1 h2
    have hlm : a.2.2.length = b.2.2.length := by omega
    (repeat' first | (refine Owe.same ?_; first | refine Owe.o ?_ | refine Owe.mk ?_ ?_) | (refine Fork.same ?_; (first | refine fkD ?_ ?_ | refine fkN ?_ ?_ | refine fkM ?_ ?_) <;> intro h) | refine MvQ.stay ?_)
    refine Sat.lp0 (fun k : Nat => [(5, vi .i64 k), (2, .c (.rp (scD a))), (3, .c (.rp (scD b)))]) (fun k => k ≤ a.2.2.length ∧ ∀ i, i < k → a.2.2.getD i ryd = b.2.2.getD i ryd) (fun k => a.2.2.length - k) 0 ⟨Nat.zero_le _, fun i hi => by omega⟩ (by ((first | refine qen ?_ | refine qvs ?_ | refine qeq ?_ | refine qst ?_ | refine qv ?_ | refine qc ?_ | refine qe ?_ | refine qcs ?_ | skip); (repeat' first | exact rfl | (refine qS ?_; constructor)))) ?_
    intro k hk
    (repeat' first | (refine Owe.same ?_; first | refine Owe.o ?_ | refine Owe.mk ?_ ?_) | (refine Fork.same ?_; (first | refine fkD ?_ ?_ | refine fkN ?_ ?_ | refine fkM ?_ ?_) <;> intro h) | refine MvQ.stay ?_)
    · rw [ray_eqB] at h
      (refine rqK rfl ?_; (repeat' first | exact rfl | (refine qS ?_; constructor))); simp only [decide_eq_false_iff_not]; intro he; subst he; simp at h
    · rw [ray_eqB] at h
      refine again0 (k + 1) ⟨by omega, fun i hi => ?_⟩ (by omega) (by ((first | refine qen ?_ | refine qvs ?_ | refine qeq ?_ | refine qst ?_ | refine qv ?_ | refine qc ?_ | refine qe ?_ | refine qcs ?_ | skip); (repeat' first | exact rfl | (refine qS ?_; constructor))))
      rcases Nat.lt_succ_iff_lt_or_eq.1 hi with h3 | rfl
      · exact hk.2 i h3
      · simpa using h
    · (refine rqK rfl ?_; (repeat' first | exact rfl | (refine qS ?_; constructor))); simp only [decide_eq_true_eq]
      refine Prod.ext h1 (Prod.ext h2 (ext_getD ryd hlm fun i hi => hk.2 i (by omega)))
end Go.Pw

set_option linter.unusedSimpArgs false
set_option maxHeartbeats 2000000
namespace Go.Pw
set_option maxRecDepth 2000
open Go Go.Proofs A1 A2 A3 A4
theorem rys_app {l m : List Ry} : rys (l ++ m) = .d (.sl 5 (l.length + m.length) fun i => if i < l.length then r5 (l.getD i ryd) else r5 (m.getD (i - l.length) ryd)) := by
  have e : (fun i => r5 ((l ++ m).getD i ryd)) = fun i => if i < l.length then r5 (l.getD i ryd) else r5 (m.getD (i - l.length) ryd) := by
    funext i
    simp only [List.getD_eq_getElem?_getD]
    split
    · rename_i h; rw [List.getElem?_append_left h]
    · rename_i h; rw [List.getElem?_append_right (by omega)]
  rw [show rys (l ++ m) = .d (.sl 5 (l ++ m).length fun i => r5 ((l ++ m).getD i ryd)) from rfl, e, List.length_append]
theorem agg_e (w g : Int) (f : Nat → List D) : ∀ (i : Nat) x y, [int w, int g, C.d (.sl 5 0 f)][i]? = some x → [int w, int g, C.d (.sl 0 0 fun _ => [])][i]? = some y → CEq x y
  | 0, _, _, hx, hy => by cases hx; cases hy; exact .refl _
  | 1, _, _, hx, hy => by cases hx; cases hy; exact .refl _
  | 2, _, _, hx, hy => by cases hx; cases hy; exact .d _ _ (.e ..)
  | _ + 3, _, _, hx, _ => by cases hx
theorem agg_e' (w g : Int) (f : Nat → List D) : ∀ (i : Nat) x y, [int w, int g, C.d (.sl 0 0 fun _ => [])][i]? = some x → [int w, int g, C.d (.sl 5 0 f)][i]? = some y → CEq x y
  | 0, _, _, hx, hy => by cases hx; cases hy; exact .refl _
  | 1, _, _, hx, hy => by cases hx; cases hy; exact .refl _
  | 2, _, _, hx, hy => by cases hx; cases hy; exact .d _ _ (.e ..)
  | _ + 3, _, _, hx, _ => by cases hx
/-- A document without rays, said otherwise. -/
abbrev sc0 (w g : Int) : V := .agg [int w, int g, .d (.sl 0 0 fun _ => [])]
theorem sc0_to (w g : Int) : RI (scv (w, g, [])) (sc0 w g) := VEq.ri (VEq.agg [int w, int g, C.d (.sl 5 0 fun i => r5 (([] : List Ry).getD i ryd))] [int w, int g, .d (.sl 0 0 fun _ => [])] rfl (agg_e _ _ _))
theorem sc0_of (w g : Int) : RI (sc0 w g) (scv (w, g, [])) := VEq.ri (VEq.agg [int w, int g, .d (.sl 0 0 fun _ => [])] [int w, int g, C.d (.sl 5 0 fun i => r5 (([] : List Ry).getD i ryd))] rfl (agg_e' _ _ _))
theorem PFD.ri0 {P : Program} {f : FuncId} {args args' : List V} {v : V} (h : PFD P f args' v) (hr : RIs args args') : PFD P f args v :=
  ⟨h.h.1, h.h.2.1, fun Γ w us hs hn ha => h.h.2.2 Γ w us hs hn (hr.rep ha)⟩
theorem C9 {s o : Sc} : PFD Tryz.prog 9 [scv s, scv o] (vbl true) := by
  have c1 := C54 (s := s)
  have c2 := C54 (s := o)
  by_cases hP : s.2.2.length ≤ 12 ∧ o.2.2.length ≤ 12
  · obtain ⟨hs, ho⟩ := hP
    have c3 := C56 (s := s) (by omega)
    have c3' := C56 (s := o) (by omega)
    have c4 := C55 (s := s) (by omega)
    have c5 := C57 (s := s) (by omega)
    have c6 := C58 (s := s) (by omega)
    have c7 := C59 (a := s) (b := o) ⟨by omega, by omega⟩
    have c8 := C60 (s := s)
    have c9 := C63 (a := s) (b := o)
    by_cases h0 : (scE s).2 = 0
    · have hO := scE_sc h0
      rw [if_pos h0] at c5 c6
      have c10 := C61 (s := s) (wo := []) ⟨hO, by decide⟩
      have c11 := C62 (s := s) (wo := []) ⟨hO, by decide⟩
      have hSl := stS_144 (wo := []) hO
      generalize stS s [] = S at *
      have hCl := conL_len S S.length
      generalize conL S S.length = Q at *
      have c12 := C22 (l := S) (m := S) (by omega)
      have c13 := C22 (l := Q) (m := Q) (by omega)
      rw [decide_eq_true rfl] at c12 c13
      rw [h0] at c4 c5 c6 c8
      by_cases h1 : meE s o = 0
      · rw [meR, if_pos h1] at c7
        rw [h1] at c9
        rcases Nat.eq_zero_or_pos s.2.2.length with hz | hz
        · obtain ⟨w, g, l⟩ := s
          have hz : l = [] := List.eq_nil_of_length_eq_zero hz
          subst hz
          rcases Nat.eq_zero_or_pos o.2.2.length with hz' | hz'
          · obtain ⟨w', g', m⟩ := o
            have hz' : m = [] := List.eq_nil_of_length_eq_zero hz'
            subst hz'
            have c15 := C64 (a := (w, g, [])) (b := (w, g, [])) (Nat.zero_lt_succ _)
            rw [decide_eq_true rfl] at c15
            refine PFD.ri0 (args' := [scv (w, g, []), sc0 w' g']) ?_ (.cons (RI.refl _) (.cons (sc0_to w' g') .nil))
            have c2 := PFD.ri0 c2 (.cons (sc0_of w' g') .nil)
            have c3' := PFD.ri0 c3' (.cons (sc0_of w' g') .nil)
            have c9 := PFD.ri0 c9 (.cons (RI.refl _) (.cons (sc0_of w' g') .nil))
            refine pi1 fn9 ?_
            (repeat' first | (refine Owe.same ?_; first | refine Owe.o ?_ | refine Owe.mk ?_ ?_) | (refine Fork.same ?_; (first | refine fkY ?_ | refine fkF ?_ | ((first | refine fkD ?_ ?_ | refine fkN ?_ ?_ | refine fkM ?_ ?_) <;> intro h))) | ((first | refine OpsL.same ?_ | refine OpsDL.same ?_); first | refine oK C10 rfl rfl rfl ?_ | refine oK c1 rfl rfl rfl ?_ | refine oK c2 rfl rfl rfl ?_ | refine oK c3 rfl rfl rfl ?_ | refine oK c3' rfl rfl rfl ?_ | refine oK c4 rfl rfl rfl ?_ | refine oK c5 rfl rfl rfl ?_ | refine oK c6 rfl rfl rfl ?_ | refine oK c7 rfl rfl rfl ?_ | refine oK c8 rfl rfl rfl ?_) | refine MvQ.stay ?_)
            (repeat' first | (refine Owe.same ?_; first | refine Owe.o ?_ | refine Owe.mk ?_ ?_) | (refine Fork.same ?_; (first | refine fkY ?_ | refine fkF ?_ | ((first | refine fkD ?_ ?_ | refine fkN ?_ ?_ | refine fkM ?_ ?_) <;> intro h))) | ((first | refine OpsL.same ?_ | refine OpsDL.same ?_); first | refine pK c10 rfl rfl ?_) | refine MvQ.stay ?_)
            (repeat' first | (refine Owe.same ?_; first | refine Owe.o ?_ | refine Owe.mk ?_ ?_) | (refine Fork.same ?_; (first | refine fkY ?_ | refine fkF ?_ | ((first | refine fkD ?_ ?_ | refine fkN ?_ ?_ | refine fkM ?_ ?_) <;> intro h))) | ((first | refine OpsL.same ?_ | refine OpsDL.same ?_); first | refine oK c12 rfl rfl rfl ?_) | refine MvQ.stay ?_)
            (repeat' first | (refine Owe.same ?_; first | refine Owe.o ?_ | refine Owe.mk ?_ ?_) | (refine Fork.same ?_; (first | refine fkY ?_ | refine fkF ?_ | ((first | refine fkD ?_ ?_ | refine fkN ?_ ?_ | refine fkM ?_ ?_) <;> intro h))) | ((first | refine OpsL.same ?_ | refine OpsDL.same ?_); first | refine pK c11 rfl rfl ?_) | refine MvQ.stay ?_)
            (repeat' first | (refine Owe.same ?_; first | refine Owe.o ?_ | refine Owe.mk ?_ ?_) | (refine Fork.same ?_; (first | refine fkY ?_ | refine fkF ?_ | ((first | refine fkD ?_ ?_ | refine fkN ?_ ?_ | refine fkM ?_ ?_) <;> intro h))) | ((first | refine OpsL.same ?_ | refine OpsDL.same ?_); first | refine oK c13 rfl rfl rfl ?_ | refine oK c9 rfl rfl rfl ?_) | refine MvQ.stay ?_)
            refine OpsL.as 116 (.agg [int w, int g, .d (.sl 0 0 fun _ => [])]) ?_ ?_
            · exact VEq.agg _ _ rfl (agg_e _ _ _)
            refine Ops.cs rfl rfl (CallS.of fn56u rfl ?_)
            (repeat' first | (refine Owe.same ?_; first | refine Owe.o ?_ | refine Owe.mk ?_ ?_) | (refine Fork.same ?_; (first | refine fkY ?_ | refine fkF ?_ | ((first | refine fkD ?_ ?_ | refine fkN ?_ ?_ | refine fkM ?_ ?_) <;> intro h))) | ((first | refine OpsL.same ?_ | refine OpsDL.same ?_); first | refine oK c9 rfl rfl rfl ?_) | refine MvQ.stay ?_)
            (repeat' first | (refine Owe.same ?_; first | refine Owe.o ?_ | refine Owe.mk ?_ ?_) | (refine Fork.same ?_; (first | refine fkY ?_ | refine fkF ?_ | ((first | refine fkD ?_ ?_ | refine fkN ?_ ?_ | refine fkM ?_ ?_) <;> intro h))) | ((first | refine OpsL.same ?_ | refine OpsDL.same ?_); first | refine pK c15 rfl rfl ?_) | refine MvQ.stay ?_)
            (refine rqK rfl ?_; (repeat' first | exact rfl | (refine qS ?_; constructor)))
          · have c15 := C64 (a := (w, g, o.2.2)) (b := (w, g, o.2.2)) (by simp only; omega)
            rw [decide_eq_true rfl] at c15
            refine pi1 fn9 ?_
            (repeat' first | (refine Owe.same ?_; first | refine Owe.o ?_ | refine Owe.mk ?_ ?_) | (refine Fork.same ?_; (first | refine fkY ?_ | refine fkF ?_ | ((first | refine fkD ?_ ?_ | refine fkN ?_ ?_ | refine fkM ?_ ?_) <;> intro h))) | ((first | refine OpsL.same ?_ | refine OpsDL.same ?_); first | refine oK C10 rfl rfl rfl ?_ | refine oK c1 rfl rfl rfl ?_ | refine oK c2 rfl rfl rfl ?_ | refine oK c3 rfl rfl rfl ?_ | refine oK c3' rfl rfl rfl ?_ | refine oK c4 rfl rfl rfl ?_ | refine oK c5 rfl rfl rfl ?_ | refine oK c6 rfl rfl rfl ?_ | refine oK c7 rfl rfl rfl ?_ | refine oK c8 rfl rfl rfl ?_) | refine MvQ.stay ?_)
            (repeat' first | (refine Owe.same ?_; first | refine Owe.o ?_ | refine Owe.mk ?_ ?_) | (refine Fork.same ?_; (first | refine fkY ?_ | refine fkF ?_ | ((first | refine fkD ?_ ?_ | refine fkN ?_ ?_ | refine fkM ?_ ?_) <;> intro h))) | ((first | refine OpsL.same ?_ | refine OpsDL.same ?_); first | refine pK c10 rfl rfl ?_) | refine MvQ.stay ?_)
            (repeat' first | (refine Owe.same ?_; first | refine Owe.o ?_ | refine Owe.mk ?_ ?_) | (refine Fork.same ?_; (first | refine fkY ?_ | refine fkF ?_ | ((first | refine fkD ?_ ?_ | refine fkN ?_ ?_ | refine fkM ?_ ?_) <;> intro h))) | ((first | refine OpsL.same ?_ | refine OpsDL.same ?_); first | refine oK c12 rfl rfl rfl ?_) | refine MvQ.stay ?_)
            (repeat' first | (refine Owe.same ?_; first | refine Owe.o ?_ | refine Owe.mk ?_ ?_) | (refine Fork.same ?_; (first | refine fkY ?_ | refine fkF ?_ | ((first | refine fkD ?_ ?_ | refine fkN ?_ ?_ | refine fkM ?_ ?_) <;> intro h))) | ((first | refine OpsL.same ?_ | refine OpsDL.same ?_); first | refine pK c11 rfl rfl ?_) | refine MvQ.stay ?_)
            (repeat' first | (refine Owe.same ?_; first | refine Owe.o ?_ | refine Owe.mk ?_ ?_) | (refine Fork.same ?_; (first | refine fkY ?_ | refine fkF ?_ | ((first | refine fkD ?_ ?_ | refine fkN ?_ ?_ | refine fkM ?_ ?_) <;> intro h))) | ((first | refine OpsL.same ?_ | refine OpsDL.same ?_); first | refine oK c13 rfl rfl rfl ?_ | refine oK c9 rfl rfl rfl ?_) | refine MvQ.stay ?_)
            (repeat' first | (refine Owe.same ?_; first | refine Owe.o ?_ | refine Owe.mk ?_ ?_) | (refine Fork.same ?_; (first | refine fkD ?_ ?_ | refine fkN ?_ ?_ | refine fkM ?_ ?_) <;> intro h) | refine MvQ.stay ?_)
            refine OpsL.as 116 (.agg [int w, int g, .d (.sl 0 0 fun _ => [])]) ?_ ?_
            · exact VEq.agg _ _ rfl (agg_e _ _ _)
            refine Ops.cs rfl rfl (CallS.of fn56u rfl ?_)
            (repeat' first | (refine Owe.same ?_; first | refine Owe.o ?_ | refine Owe.mk ?_ ?_) | (refine Fork.same ?_; (first | refine fkY ?_ | refine fkF ?_ | ((first | refine fkD ?_ ?_ | refine fkN ?_ ?_ | refine fkM ?_ ?_) <;> intro h))) | ((first | refine OpsL.same ?_ | refine OpsDL.same ?_); first | refine oK c9 rfl rfl rfl ?_) | refine MvQ.stay ?_)
            refine OpsL.frzA 128 2 20 rfl rfl rfl (Nat.le_refl _) ?_
            (repeat' first | (refine Owe.same ?_; first | refine Owe.o ?_ | refine Owe.mk ?_ ?_) | (refine Fork.same ?_; (first | refine fkY ?_ | refine fkF ?_ | ((first | refine fkD ?_ ?_ | refine fkN ?_ ?_ | refine fkM ?_ ?_) <;> intro h))) | ((first | refine OpsL.same ?_ | refine OpsDL.same ?_); first | refine oK c15 rfl rfl rfl ?_) | refine MvQ.stay ?_)
            (refine rqK rfl ?_; (repeat' first | exact rfl | (refine qS ?_; constructor)))
        · refine pi1 fn9 ?_
          (repeat' first | (refine Owe.same ?_; first | refine Owe.o ?_ | refine Owe.mk ?_ ?_) | (refine Fork.same ?_; (first | refine fkY ?_ | refine fkF ?_ | ((first | refine fkD ?_ ?_ | refine fkN ?_ ?_ | refine fkM ?_ ?_) <;> intro h))) | ((first | refine OpsL.same ?_ | refine OpsDL.same ?_); first | refine oK C10 rfl rfl rfl ?_ | refine oK c1 rfl rfl rfl ?_ | refine oK c2 rfl rfl rfl ?_ | refine oK c3 rfl rfl rfl ?_ | refine oK c3' rfl rfl rfl ?_ | refine oK c4 rfl rfl rfl ?_ | refine oK c5 rfl rfl rfl ?_ | refine oK c6 rfl rfl rfl ?_ | refine oK c7 rfl rfl rfl ?_ | refine oK c8 rfl rfl rfl ?_) | refine MvQ.stay ?_)
          (repeat' first | (refine Owe.same ?_; first | refine Owe.o ?_ | refine Owe.mk ?_ ?_) | (refine Fork.same ?_; (first | refine fkY ?_ | refine fkF ?_ | ((first | refine fkD ?_ ?_ | refine fkN ?_ ?_ | refine fkM ?_ ?_) <;> intro h))) | ((first | refine OpsL.same ?_ | refine OpsDL.same ?_); first | refine pK c10 rfl rfl ?_) | refine MvQ.stay ?_)
          (repeat' first | (refine Owe.same ?_; first | refine Owe.o ?_ | refine Owe.mk ?_ ?_) | (refine Fork.same ?_; (first | refine fkY ?_ | refine fkF ?_ | ((first | refine fkD ?_ ?_ | refine fkN ?_ ?_ | refine fkM ?_ ?_) <;> intro h))) | ((first | refine OpsL.same ?_ | refine OpsDL.same ?_); first | refine oK c12 rfl rfl rfl ?_) | refine MvQ.stay ?_)
          (repeat' first | (refine Owe.same ?_; first | refine Owe.o ?_ | refine Owe.mk ?_ ?_) | (refine Fork.same ?_; (first | refine fkY ?_ | refine fkF ?_ | ((first | refine fkD ?_ ?_ | refine fkN ?_ ?_ | refine fkM ?_ ?_) <;> intro h))) | ((first | refine OpsL.same ?_ | refine OpsDL.same ?_); first | refine pK c11 rfl rfl ?_) | refine MvQ.stay ?_)
          (repeat' first | (refine Owe.same ?_; first | refine Owe.o ?_ | refine Owe.mk ?_ ?_) | (refine Fork.same ?_; (first | refine fkY ?_ | refine fkF ?_ | ((first | refine fkD ?_ ?_ | refine fkN ?_ ?_ | refine fkM ?_ ?_) <;> intro h))) | ((first | refine OpsL.same ?_ | refine OpsDL.same ?_); first | refine oK c13 rfl rfl rfl ?_ | refine oK c9 rfl rfl rfl ?_) | refine MvQ.stay ?_)
          (repeat' first | (refine Owe.same ?_; first | refine Owe.o ?_ | refine Owe.mk ?_ ?_) | (refine Fork.same ?_; (first | refine fkD ?_ ?_ | refine fkN ?_ ?_ | refine fkM ?_ ?_) <;> intro h) | refine MvQ.stay ?_)
          refine Ops.cs rfl rfl (CallS.of fn56u rfl ?_)
          (repeat' first | (refine Owe.same ?_; first | refine Owe.o ?_ | refine Owe.mk ?_ ?_) | (refine Fork.same ?_; (first | refine fkD ?_ ?_ | refine fkN ?_ ?_ | refine fkM ?_ ?_) <;> intro h) | refine MvQ.stay ?_)
          rotate_left
          · exact absurd rfl h
          have c15 : PFD Tryz.prog 64 [scv (s.1, s.2.1, s.2.2 ++ o.2.2), .agg [int s.1, int s.2.1, .d (.sl 5 (s.2.2.length + o.2.2.length) fun i => if i < s.2.2.length then r5 (s.2.2.getD i ryd) else r5 (o.2.2.getD (i - s.2.2.length) ryd))]] (vbl true) := by
            rw [← rys_app]
            have h := C64 (a := (s.1, s.2.1, s.2.2 ++ o.2.2)) (b := (s.1, s.2.1, s.2.2 ++ o.2.2)) (by simp only [List.length_append]; omega)
            rw [decide_eq_true rfl] at h
            exact h
          (repeat' first | (refine Owe.same ?_; first | refine Owe.o ?_ | refine Owe.mk ?_ ?_) | (refine Fork.same ?_; (first | refine fkD ?_ ?_ | refine fkN ?_ ?_ | refine fkM ?_ ?_) <;> intro h) | refine MvQ.stay ?_)
          refine OpsL.frzA 128 2 20 rfl rfl rfl (Nat.le_refl _) ?_
          (repeat' first | (refine Owe.same ?_; first | refine Owe.o ?_ | refine Owe.mk ?_ ?_) | (refine Fork.same ?_; (first | refine fkY ?_ | refine fkF ?_ | ((first | refine fkD ?_ ?_ | refine fkN ?_ ?_ | refine fkM ?_ ?_) <;> intro h))) | ((first | refine OpsL.same ?_ | refine OpsDL.same ?_); first | refine oK c15 rfl rfl rfl ?_) | refine MvQ.stay ?_)
          (refine rqK rfl ?_; (repeat' first | exact rfl | (refine qS ?_; constructor)))
      · rw [meR, if_neg h1] at c7
        have c14 := C64 (a := (0, 0, [])) (b := (0, 0, [])) (by decide)
        rw [decide_eq_true rfl] at c14
        generalize meE s o = e at *
        refine pi1 fn9 ?_
        (repeat' first | (refine Owe.same ?_; first | refine Owe.o ?_ | refine Owe.mk ?_ ?_) | (refine Fork.same ?_; (first | refine fkY ?_ | refine fkF ?_ | ((first | refine fkD ?_ ?_ | refine fkN ?_ ?_ | refine fkM ?_ ?_) <;> intro h))) | ((first | refine OpsL.same ?_ | refine OpsDL.same ?_); first | refine oK C10 rfl rfl rfl ?_ | refine oK c1 rfl rfl rfl ?_ | refine oK c2 rfl rfl rfl ?_ | refine oK c3 rfl rfl rfl ?_ | refine oK c3' rfl rfl rfl ?_ | refine oK c4 rfl rfl rfl ?_ | refine oK c5 rfl rfl rfl ?_ | refine oK c6 rfl rfl rfl ?_ | refine oK c7 rfl rfl rfl ?_ | refine oK c8 rfl rfl rfl ?_) | refine MvQ.stay ?_)
        (repeat' first | (refine Owe.same ?_; first | refine Owe.o ?_ | refine Owe.mk ?_ ?_) | (refine Fork.same ?_; (first | refine fkY ?_ | refine fkF ?_ | ((first | refine fkD ?_ ?_ | refine fkN ?_ ?_ | refine fkM ?_ ?_) <;> intro h))) | ((first | refine OpsL.same ?_ | refine OpsDL.same ?_); first | refine pK c10 rfl rfl ?_) | refine MvQ.stay ?_)
        (repeat' first | (refine Owe.same ?_; first | refine Owe.o ?_ | refine Owe.mk ?_ ?_) | (refine Fork.same ?_; (first | refine fkY ?_ | refine fkF ?_ | ((first | refine fkD ?_ ?_ | refine fkN ?_ ?_ | refine fkM ?_ ?_) <;> intro h))) | ((first | refine OpsL.same ?_ | refine OpsDL.same ?_); first | refine oK c12 rfl rfl rfl ?_) | refine MvQ.stay ?_)
        (repeat' first | (refine Owe.same ?_; first | refine Owe.o ?_ | refine Owe.mk ?_ ?_) | (refine Fork.same ?_; (first | refine fkY ?_ | refine fkF ?_ | ((first | refine fkD ?_ ?_ | refine fkN ?_ ?_ | refine fkM ?_ ?_) <;> intro h))) | ((first | refine OpsL.same ?_ | refine OpsDL.same ?_); first | refine pK c11 rfl rfl ?_) | refine MvQ.stay ?_)
        (repeat' first | (refine Owe.same ?_; first | refine Owe.o ?_ | refine Owe.mk ?_ ?_) | (refine Fork.same ?_; (first | refine fkY ?_ | refine fkF ?_ | ((first | refine fkD ?_ ?_ | refine fkN ?_ ?_ | refine fkM ?_ ?_) <;> intro h))) | ((first | refine OpsL.same ?_ | refine OpsDL.same ?_); first | refine oK c13 rfl rfl rfl ?_ | refine oK c9 rfl rfl rfl ?_) | refine MvQ.stay ?_)
        (repeat' first | (refine Owe.same ?_; first | refine Owe.o ?_ | refine Owe.mk ?_ ?_) | (refine Fork.same ?_; (first | refine fkY ?_ | refine fkF ?_ | ((first | refine fkD ?_ ?_ | refine fkN ?_ ?_ | refine fkM ?_ ?_) <;> intro h))) | ((first | refine OpsL.same ?_ | refine OpsDL.same ?_); first | refine pK c14 rfl rfl ?_) | refine MvQ.stay ?_)
        (refine rqK rfl ?_; (repeat' first | exact rfl | (refine qS ?_; constructor)))
    · have e : meE s o = (scE s).2 := by rw [meE, fst_c h0]
      rw [if_neg h0] at c5 c6
      rw [meR, if_neg (by rw [e]; exact h0)] at c7
      rw [e] at c7 c9
      have c14 := C64 (a := (0, 0, [])) (b := (0, 0, [])) (by decide)
      rw [decide_eq_true rfl] at c14
      generalize (scE s).2 = e at *
      refine pi1 fn9 ?_
      (repeat' first | (refine Owe.same ?_; first | refine Owe.o ?_ | refine Owe.mk ?_ ?_) | (refine Fork.same ?_; (first | refine fkY ?_ | refine fkF ?_ | ((first | refine fkD ?_ ?_ | refine fkN ?_ ?_ | refine fkM ?_ ?_) <;> intro h))) | ((first | refine OpsL.same ?_ | refine OpsDL.same ?_); first | refine oK C10 rfl rfl rfl ?_ | refine oK c1 rfl rfl rfl ?_ | refine oK c2 rfl rfl rfl ?_ | refine oK c3 rfl rfl rfl ?_ | refine oK c3' rfl rfl rfl ?_ | refine oK c4 rfl rfl rfl ?_ | refine oK c5 rfl rfl rfl ?_ | refine oK c6 rfl rfl rfl ?_ | refine oK c7 rfl rfl rfl ?_ | refine oK c8 rfl rfl rfl ?_ | refine oK c9 rfl rfl rfl ?_) | refine MvQ.stay ?_)
      (repeat' first | (refine Owe.same ?_; first | refine Owe.o ?_ | refine Owe.mk ?_ ?_) | (refine Fork.same ?_; (first | refine fkY ?_ | refine fkF ?_ | ((first | refine fkD ?_ ?_ | refine fkN ?_ ?_ | refine fkM ?_ ?_) <;> intro h))) | ((first | refine OpsL.same ?_ | refine OpsDL.same ?_); first | refine pK c14 rfl rfl ?_) | refine MvQ.stay ?_)
      (refine rqK rfl ?_; (repeat' first | exact rfl | (refine qS ?_; constructor)))
  · refine pi1 fn9 ?_
    (repeat' first | (refine Owe.same ?_; first | refine Owe.o ?_ | refine Owe.mk ?_ ?_) | (refine Fork.same ?_; (first | refine fkY ?_ | refine fkF ?_ | ((first | refine fkD ?_ ?_ | refine fkN ?_ ?_ | refine fkM ?_ ?_) <;> intro h))) | ((first | refine OpsL.same ?_ | refine OpsDL.same ?_); first | refine oK C10 rfl rfl rfl ?_ | refine oK c1 rfl rfl rfl ?_ | refine oK c2 rfl rfl rfl ?_) | refine MvQ.stay ?_)
    all_goals (refine rqK rfl ?_; (repeat' first | exact rfl | (refine qS ?_; constructor)))
end Go.Pw

namespace Go.Proofs.YtbgikbenhglmkaaGreat
open Go.ChangeShapes Go.WideShapes Go.ChangeAt Go.RowKit Go.Pw
theorem Tryz.own : ownKnob Tryz.prog.godebug = none := by kernel_rfl
theorem Tryz.laidOut : laidOutB Tryz.prog = true := by kernel_rfl
theorem shapes : shAll Tryz.prog [91, 91] = some [(true, [.int .i64, .int .i64, .sl [.int .i64, .int .i64, .int .i64, .int .i64, .bool]]), (true, [.int .i64, .int .i64, .sl [.int .i64, .int .i64, .int .i64, .int .i64, .bool]])] := by kernel_rfl
theorem law (args : List V) (h : ArgOk [(true, [.int .i64, .int .i64, .sl [.int .i64, .int .i64, .int .i64, .int .i64, .bool]]), (true, [.int .i64, .int .i64, .sl [.int .i64, .int .i64, .int .i64, .int .i64, .bool]])] args) : PFD Tryz.prog 9 args (vbl true) := by
  match args, h with
  | [v0, v1], ⟨h0, h1, _⟩ =>
    obtain ⟨s0, r0, q0⟩ := arg_scene h0
    obtain ⟨s1, r1, q1⟩ := arg_scene h1
    exact PFD.ri C9 (.cons r0 (.cons r1 .nil))
set_option maxRecDepth 100000 in
theorem lifted (os : Os) (started : os.Started) (H : Type) (enc : TypeId × Value → H) :
    ReturnsInHanded {} Tryz.checked os 9 .any (Rows.sonarScenesSpec.pre6 enc Tryz.prog Tryz.f9 Rows.sonarScenesRow.domain false) (Rows.sonarScenesSpec.post enc Tryz.prog Tryz.f9 false true false false) := by
  refine returnsInHanded_of_change (C := Tryz.checked) Tryz.own started (by kernel_rfl) Tryz.func9
    (ChangeSpec.witness6 (enc := enc) (C := Tryz.checked) false ⟨#[], #[.agg #[.int .i64 0, .int .i64 0, .slice none 0 0], .agg #[.int .i64 0, .int .i64 0, .slice none 0 0]], []⟩ 8 (by kernel_rfl) (by kernel_rfl) (by kernel_rfl) (by kernel_rfl)) ?_
  intro W base args ds gs before hval0 hW hcnd _
  exact law_calls (P := Tryz.prog) (F := Tryz.f9) (tb := 4) Tryz.laidOut (by rw [Tryz.params9]; exact shapes) rfl (fun ds hl => by
    rw [Tryz.params9] at hl
    match ds, hl with
    | [d0, d1], _ => rfl) (by kernel_rfl) Tryz.underlying4 law W base args ds gs before hval0 hW
theorem row_holds : Rows.SonarScenesSaid :=
  OpenClaim.holds_of_wide 9 Tryz.f9 rfl rfl rfl rfl rfl rfl rfl ⟨rfl, rfl, rfl, rfl, rfl⟩ rfl rfl rfl rfl rfl (by kernel_rfl) Tryz.func9 (by kernel_rfl)
    (of_decide_eq_true (by kernel_rfl)) (by unfold Func.isWrapper; rw [if_neg (by decide +kernel)]; exact ⟨rfl, rfl⟩)
    (fun os started H enc _ => lifted os started H enc)
end Go.Proofs.YtbgikbenhglmkaaGreat
