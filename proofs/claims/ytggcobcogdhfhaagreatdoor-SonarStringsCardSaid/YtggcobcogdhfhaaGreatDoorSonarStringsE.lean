/- Steps toward the row of this claim: part 5 of 6. Proved as named below, on no condition but those that each theorem states. -/
import Derived.Test.YtggcobcogdhfhaaGreatDoorSonarStringsD
import Derived.Test.YtggcobcogdhfhaaGreatDoorProg
import Derived.WalkKit
import Derived.BigCall
set_option linter.unusedSimpArgs false
set_option linter.unusedVariables false
namespace Go.Pw
/-- What a function says along a range of numbers, one after the other. -/
def catR {α : Type} (f : Int → List α) (a : Int) : Nat → List α
  | 0 => []
  | k + 1 => catR f a k ++ f (a + k)
section
variable {α β : Type} {f g : Int → List α}
theorem catR_len {a : Int} {c k : Nat} (h : ∀ x, (f x).length ≤ c) : (catR f a k).length ≤ k * c := by
  induction k with
  | zero => exact Nat.zero_le _
  | succ k ih => rw [catR, List.length_append, Nat.succ_mul]; have := h (a + k); omega
theorem catR_mem {a : Int} {k : Nat} {x : α} : x ∈ catR f a k ↔ ∃ i : Nat, i < k ∧ x ∈ f (a + i) := by
  induction k with
  | zero => simp [catR]
  | succ k ih =>
    rw [catR, List.mem_append, ih]
    constructor
    · rintro (⟨i, hi, h⟩ | h)
      · exact ⟨i, by omega, h⟩
      · exact ⟨k, by omega, h⟩
    · rintro ⟨i, hi, h⟩
      by_cases hk : i = k
      · subst hk; exact .inr h
      · exact .inl ⟨i, by omega, h⟩
end
abbrev Cel := Int × Int
abbrev Ry := Cel × Cel × Bool
def Ry.dx (r : Ry) : Int := r.2.1.1 - r.1.1
def Ry.dy (r : Ry) : Int := r.2.1.2 - r.1.2
def Ry.mid (r : Ry) (x y : Int) : Int := r.dx * 2 * (y - r.1.2) - r.dy * 2 * (x - r.1.1)
def sz (n : Int) : Int := max n (-n)
/-- In the rectangle of both ends a ray crosses this cell. -/
def crs (r : Ry) (x y : Int) : Bool := decide (sz (r.mid x y) < sz r.dx + sz r.dy ∨ (r.dx = 0 ∧ r.dy = 0))
def crC (r : Ry) (y x : Int) : List Cel := if crs r x y then [(x, y)] else []
def Ry.x0 (r : Ry) : Int := min r.1.1 r.2.1.1
def Ry.y0 (r : Ry) : Int := min r.1.2 r.2.1.2
def Ry.wn (r : Ry) : Nat := (sz r.dx).toNat + 1
def Ry.hn (r : Ry) : Nat := (sz r.dy).toNat + 1
def crR (r : Ry) (y : Int) : List Cel := catR (crC r y) r.x0 r.wn
/-- The cells that a ray crosses. -/
def crS (r : Ry) : List Cel := catR (crR r) r.y0 r.hn
def inG (c : Cel) (w h : Int) : Prop := (0 ≤ c.1 ∧ c.1 ≤ w - 1) ∧ 0 ≤ c.2 ∧ c.2 ≤ h - 1
instance (c : Cel) (w h : Int) : Decidable (inG c w h) := by unfold inG; infer_instance
def ryOk (r : Ry) (w h : Int) : Prop := inG r.1 w h ∧ inG r.2.1 w h
instance (r : Ry) (w h : Int) : Decidable (ryOk r w h) := by unfold ryOk; infer_instance
theorem crC_len (r : Ry) (y x : Int) : (crC r y x).length ≤ 1 := by rw [crC]; split <;> simp
theorem crR_len {r : Ry} {y : Int} : (crR r y).length ≤ r.wn := by have := catR_len (a := r.x0) (k := r.wn) (crC_len r y); rw [crR]; omega
theorem wn_le {r : Ry} {w h : Int} (ho : ryOk r w h) : (r.wn : Int) ≤ w := by
  have h1 := ho.1.1; have h2 := ho.2.1
  rw [Ry.wn, Ry.dx, sz]; omega
theorem hn_le {r : Ry} {w h : Int} (ho : ryOk r w h) : (r.hn : Int) ≤ h := by
  have h1 := ho.1.2; have h2 := ho.2.2
  rw [Ry.hn, Ry.dy, sz]; omega
theorem mem_crC {r : Ry} {x y : Int} {c : Cel} : c ∈ crC r y x ↔ crs r x y = true ∧ c = (x, y) := by
  rw [crC]; split <;> simp_all
/-- Every cell that is crossed lies in the rectangle of both ends. -/
theorem crS_mem {r : Ry} {c : Cel} : c ∈ crS r ↔ crs r c.1 c.2 = true ∧ (r.x0 ≤ c.1 ∧ c.1 < r.x0 + r.wn) ∧ r.y0 ≤ c.2 ∧ c.2 < r.y0 + r.hn := by
  rw [crS, catR_mem]
  constructor
  · rintro ⟨i, hi, h⟩
    obtain ⟨j, hj, h1⟩ := catR_mem.1 h
    obtain ⟨h2, rfl⟩ := mem_crC.1 h1
    exact ⟨h2, ⟨by simp only; omega, by simp only; omega⟩, by simp only; omega, by simp only; omega⟩
  · rintro ⟨h, hx, hy⟩
    refine ⟨(c.2 - r.y0).toNat, by omega, catR_mem.2 ⟨(c.1 - r.x0).toNat, by omega, mem_crC.2 ?_⟩⟩
    have e1 : r.x0 + ((c.1 - r.x0).toNat : Int) = c.1 := by omega
    have e2 : r.y0 + ((c.2 - r.y0).toNat : Int) = c.2 := by omega
    rw [e1, e2]; exact ⟨h, rfl⟩
theorem crS_len {r : Ry} : (crS r).length ≤ r.hn * r.wn := catR_len fun _ => crR_len
end Go.Pw

set_option linter.unusedSimpArgs false
set_option linter.unusedVariables false
namespace Go.Pw
set_option maxRecDepth 2000
open Go Go.Proofs A1 A2 A3 A4
abbrev r5 (r : Ry) : List D := [dI r.1.1, dI r.1.2, dI r.2.1.1, dI r.2.1.2, .v (.bool r.2.2)]
abbrev ryd : Ry := ((0, 0), (0, 0), false)
abbrev rys (l : List Ry) : C := slv 5 r5 ryd l
abbrev ryv (r : Ry) : V := .agg [int r.1.1, int r.1.2, int r.2.1.1, int r.2.1.2, .d (.v (.bool r.2.2))]
theorem C146 {c : Pr} {w g : Int} : ((-1000000 ≤ w ∧ w ≤ 1000000) ∧ -1000000 ≤ g ∧ g ≤ 1000000) → PFD Tryz.prog 146 [pr c, vi .i64 w, vi .i64 g] (vbl (decide (inG c w g))) := fun ⟨hw, hh⟩ => by
  refine pi1 fn146 ?_
  (repeat' first | (refine Owe.same ?_; first | refine Owe.o ?_ | refine Owe.mk ?_ ?_) | (refine Fork.same ?_; (first | refine fkD ?_ ?_ | refine fkN ?_ ?_ | refine fkM ?_ ?_) <;> intro h) | ((first | refine OpsL.same ?_ | refine OpsDL.same ?_); first | refine pK C69 rfl rfl ?_) | refine MvQ.stay ?_)
  · (refine rqK rfl ?_; (repeat' first | exact rfl | (refine qS ?_; constructor)))
    exact decide_eq_decide.2 ⟨fun hh => ⟨h, hh⟩, fun hh => hh.2⟩
  · (refine rqK rfl ?_; (repeat' first | exact rfl | (refine qS ?_; constructor)))
    rw [decide_eq_false]; exact fun hh => h hh.1
theorem C113 {r : Ry} {w g : Int} : ((-1000000 ≤ w ∧ w ≤ 1000000) ∧ -1000000 ≤ g ∧ g ≤ 1000000) → PFD Tryz.prog 113 [ryv r, vi .i64 w, vi .i64 g] (vi .i64 (unl (ryOk r w g) 6)) := fun ⟨hw, hh⟩ => by
  refine pi1 fn113 ?_
  (repeat' first | (refine Owe.same ?_; first | refine Owe.o ?_ | refine Owe.mk ?_ ?_) | (refine Fork.same ?_; (first | refine fkD ?_ ?_ | refine fkN ?_ ?_ | refine fkM ?_ ?_) <;> intro h) | ((first | refine OpsL.same ?_ | refine OpsDL.same ?_); first | refine pK C146 rfl rfl ?_ | refine pK C56 rfl rfl ?_) | refine MvQ.stay ?_)
  · (refine rqK rfl ?_; (repeat' first | exact rfl | (refine qS ?_; constructor)))
    rw [unl]; congr 1; exact decide_eq_decide.2 ⟨fun hh => ⟨h, hh⟩, fun hh => hh.2⟩
  · (refine rqK rfl ?_; (repeat' first | exact rfl | (refine qS ?_; constructor)))
    rw [unl, decide_eq_false]; exact fun hh => h hh.1
theorem mulb {a b : Int} (ha : -12 ≤ a ∧ a ≤ 12) (hb : -12 ≤ b ∧ b ≤ 12) : -288 ≤ a * 2 * b ∧ a * 2 * b ≤ 288 := by
  have h1 : (a * 2) * b ≤ 288 ∧ -288 ≤ (a * 2) * b := by
    have e : (a * 2) * b = 2 * (a * b) := by rw [Int.mul_comm a 2, Int.mul_assoc]
    rw [e]
    have : a.natAbs * b.natAbs ≤ 12 * 12 := Nat.mul_le_mul (by omega) (by omega)
    rw [← Int.natAbs_mul] at this
    omega
  omega
theorem C116 {r : Ry} : ryOk r 12 12 → PFD Tryz.prog 116 [ryv r] (.c (prs (crS r))) := fun hO => by
  obtain ⟨⟨fx, fy⟩, ⟨tx, ty⟩, b⟩ := r
  obtain ⟨⟨hx1, hy1⟩, hx2, hy2⟩ := hO
  simp only at hx1 hy1 hx2 hy2
  have hwn : ((Ry.wn ((fx, fy), (tx, ty), b) : Nat) : Int) = max fx tx - min fx tx + 1 := by simp only [Ry.wn, Ry.dx, sz]; omega
  have hhn : ((Ry.hn ((fx, fy), (tx, ty), b) : Nat) : Int) = max fy ty - min fy ty + 1 := by simp only [Ry.hn, Ry.dy, sz]; omega
  obtain ⟨S, hS⟩ : ∃ S, S = crS ((fx, fy), (tx, ty), b) := ⟨_, rfl⟩
  rw [← hS]
  refine pi1 fn116 ?_
  (repeat' first | (refine Owe.same ?_; first | refine Owe.o ?_ | refine Owe.mk ?_ ?_) | (refine Fork.same ?_; (first | refine fkD ?_ ?_ | refine fkN ?_ ?_ | refine fkM ?_ ?_) <;> intro h) | refine MvQ.stay ?_)
  refine Sat.nilS 5 49 2 (fun i => r2 (([] : List Pr).getD i (0, 0))) rfl ?_
  refine Sat.lp (fun s : Int × List Pr => ⟨[(6, vi .i64 s.1), (3, vi .i64 (tx - fx)), (4, vi .i64 (ty - fy)), (1, .c (.rp [dI fx, dI fy, dI tx, dI ty, .v (.bool b)])), (5, .c (.ms 0 s.2.length))], [(0, rowv 49 2 r2 (0, 0) s.2)], 1⟩)
    (fun s => (min fy ty ≤ s.1 ∧ s.1 ≤ max fy ty + 1) ∧ s.2 = catR (crR ((fx, fy), (tx, ty), b)) (min fy ty) (s.1 - min fy ty).toNat) (fun s => (max fy ty + 1 - s.1).toNat) (min fy ty, []) [16] ?_ ?_ ?_
  · refine ⟨by simp only; omega, ?_⟩
    simp only [Int.sub_self]; rfl
  · (refine qis ?_ ?_ <;> (repeat' first | exact rfl | (refine qS ?_; constructor)))
  · intro ⟨y, out⟩ hk
    simp only at hk ⊢
    have hol : out.length ≤ (y - min fy ty).toNat * Ry.wn ((fx, fy), (tx, ty), b) := by rw [hk.2]; exact catR_len fun _ => crR_len
    have hol2 : (y - min fy ty).toNat * Ry.wn ((fx, fy), (tx, ty), b) ≤ 12 * 12 := Nat.mul_le_mul (by omega) (by omega)
    (repeat' first | (refine Owe.same ?_; first | refine Owe.o ?_ | refine Owe.mk ?_ ?_) | (refine Fork.same ?_; (first | refine fkD ?_ ?_ | refine fkN ?_ ?_ | refine fkM ?_ ?_) <;> intro h) | refine MvQ.stay ?_)
    · refine Sat.lp (fun s : Int × List Pr => ⟨[(7, vi .i64 s.1), (6, vi .i64 y), (3, vi .i64 (tx - fx)), (4, vi .i64 (ty - fy)), (1, .c (.rp [dI fx, dI fy, dI tx, dI ty, .v (.bool b)])), (5, .c (.ms 0 s.2.length))], [(0, rowv 49 2 r2 (0, 0) s.2)], 1⟩)
        (fun s => (min fx tx ≤ s.1 ∧ s.1 ≤ max fx tx + 1) ∧ s.2 = out ++ catR (crC ((fx, fy), (tx, ty), b) y) (min fx tx) (s.1 - min fx tx).toNat) (fun s => (max fx tx + 1 - s.1).toNat) (min fx tx, out) [0] ?_ ?_ ?_
      · refine ⟨by simp only; omega, ?_⟩
        simp only [Int.sub_self]; exact (List.append_nil _).symm
      · (refine qis ?_ ?_ <;> (repeat' first | exact rfl | (refine qS ?_; constructor)))
      · intro ⟨x, o⟩ hj
        simp only at hj ⊢
        have hjl := catR_len (f := crC ((fx, fy), (tx, ty), b) y) (a := min fx tx) (k := (x - min fx tx).toNat) (crC_len _ _)
        have hjl : o.length ≤ 200 := by rw [hj.2, List.length_append]; omega
        have hs : catR (crC ((fx, fy), (tx, ty), b) y) (min fx tx) (x + 1 - min fx tx).toNat = catR (crC ((fx, fy), (tx, ty), b) y) (min fx tx) (x - min fx tx).toNat ++ crC ((fx, fy), (tx, ty), b) y x := by
          have e : (x + 1 - min fx tx).toNat = (x - min fx tx).toNat + 1 := by omega
          rw [e, catR]; congr 2; omega
        have m1 := mulb (a := tx - fx) (b := y - fy) (by omega) (by omega)
        have m2 := mulb (a := ty - fy) (b := x - fx) (by omega) (by omega)
        (repeat' first | (refine Owe.same ?_; first | refine Owe.o ?_ | refine Owe.mk ?_ ?_) | (refine Fork.same ?_; (first | refine fkD ?_ ?_ | refine fkN ?_ ?_ | refine fkM ?_ ?_) <;> intro h) | ((first | refine OpsL.same ?_ | refine OpsDL.same ?_); first | refine pK C136 rfl rfl ?_) | refine MvQ.stay ?_)
        · have hc : crC ((fx, fy), (tx, ty), b) y x = [(x, y)] := by
            rw [crC, if_pos]; rw [crs]; exact decide_eq_true (.inl h)
          rw [hc] at hs
          refine again (x + 1, o ++ [(x, y)]) [1] ⟨by simp only; omega, by simp only; rw [hs, hj.2, List.append_assoc]⟩ (by simp only; omega) ?_
          (refine qis ?_ ?_ <;> (repeat' first | exact rfl | (refine qS ?_; constructor)))
          simp
        · rename_i h0 h1 h2
          have hc : crC ((fx, fy), (tx, ty), b) y x = [(x, y)] := by
            rw [crC, if_pos]; rw [crs]; exact decide_eq_true (.inr ⟨h2, h⟩)
          rw [hc] at hs
          refine again (x + 1, o ++ [(x, y)]) [1] ⟨by simp only; omega, by simp only; rw [hs, hj.2, List.append_assoc]⟩ (by simp only; omega) ?_
          (refine qis ?_ ?_ <;> (repeat' first | exact rfl | (refine qS ?_; constructor)))
          simp
        · rename_i h0 h1 h2
          have hc : crC ((fx, fy), (tx, ty), b) y x = [] := by
            rw [crC, if_neg]; rw [crs]; exact fun hh => (of_decide_eq_true hh).elim h1 fun hq => h hq.2
          rw [hc, List.append_nil] at hs
          refine again (x + 1, o) [0] ⟨by simp only; omega, by simp only; rw [hs, hj.2]⟩ (by simp only; omega) ?_
          (refine qis ?_ ?_ <;> (repeat' first | exact rfl | (refine qS ?_; constructor)))
        · rename_i h0 h1
          have hc : crC ((fx, fy), (tx, ty), b) y x = [] := by
            rw [crC, if_neg]; rw [crs]; exact fun hh => (of_decide_eq_true hh).elim h1 fun hq => h hq.1
          rw [hc, List.append_nil] at hs
          refine again (x + 1, o) [0] ⟨by simp only; omega, by simp only; rw [hs, hj.2]⟩ (by simp only; omega) ?_
          (refine qis ?_ ?_ <;> (repeat' first | exact rfl | (refine qS ?_; constructor)))
        · have e : (x - min fx tx).toNat = Ry.wn ((fx, fy), (tx, ty), b) := by omega
          have e2 : (y + 1 - min fy ty).toNat = (y - min fy ty).toNat + 1 := by omega
          refine again (y + 1, o) [0] ⟨by simp only; omega, ?_⟩ (by simp only; omega) ?_
          · simp only
            rw [e2, catR, hj.2, hk.2, e]
            congr 1
            have : min fy ty + ((y - min fy ty).toNat : Int) = y := by omega
            rw [this]; rfl
          · (refine qis ?_ ?_ <;> (repeat' first | exact rfl | (refine qS ?_; constructor)))
    · have e : out = S := by
        rw [hk.2, hS, crS]
        have : (y - min fy ty).toNat = Ry.hn ((fx, fy), (tx, ty), b) := by omega
        rw [this]; rfl
      subst e
      (repeat' first | (refine Owe.same ?_; first | refine Owe.o ?_ | refine Owe.mk ?_ ?_) | (refine Fork.same ?_; (first | refine fkD ?_ ?_ | refine fkN ?_ ?_ | refine fkM ?_ ?_) <;> intro h) | refine MvQ.stay ?_)
      refine rqF 0 _ rfl rfl rfl ?_; (repeat' first | exact rfl | (refine qS ?_; constructor))
end Go.Pw

set_option linter.unusedSimpArgs false
set_option linter.unusedVariables false
namespace Go.Pw
set_option maxRecDepth 2000
open Go Go.Proofs A1 A2 A3 A4
abbrev Sc := Int × Int × List Ry
abbrev rysD (l : List Ry) : D := .sl 5 l.length fun i => r5 (l.getD i ryd)
abbrev scD (s : Sc) : List D := [dI s.1, dI s.2.1, rysD s.2.2]
abbrev scv (s : Sc) : V := .agg [int s.1, int s.2.1, rys s.2.2]
theorem C145 {n : Int} : PFD Tryz.prog 145 [vi .i64 n] (vbl (decide (1 ≤ n ∧ n ≤ 12))) := by
  refine pi1 fn145 ?_
  (repeat' first | (refine Owe.same ?_; first | refine Owe.o ?_ | refine Owe.mk ?_ ?_) | (refine Fork.same ?_; (first | refine fkD ?_ ?_ | refine fkN ?_ ?_ | refine fkM ?_ ?_) <;> intro h) | ((first | refine OpsL.same ?_ | refine OpsDL.same ?_); first | refine pK C69 rfl rfl ?_) | refine MvQ.stay ?_)
  (refine rqK rfl ?_; (repeat' first | exact rfl | (refine qS ?_; constructor)))
/-- The error of columns and rows, and of the number of rays. -/
def gridE (w h : Int) (n : Int) : Int := fstE [unl ((1 ≤ w ∧ w ≤ 12) ∧ 1 ≤ h ∧ h ≤ 12) 2, unl (n ≤ 10) 8]
theorem unl_of {p : Prop} [Decidable p] {b : Bool} {e : Int} (h : b = decide p) : unb b e = unl p e := by subst h; rfl
theorem C110 {w g n : Int} : PFD Tryz.prog 110 [vi .i64 w, vi .i64 g, vi .i64 n] (vi .i64 (gridE w g n)) := by
  refine pi1 fn110 ?_
  (repeat' first | (refine Owe.same ?_; first | refine Owe.o ?_ | refine Owe.mk ?_ ?_) | (refine Fork.same ?_; (first | refine fkD ?_ ?_ | refine fkN ?_ ?_ | refine fkM ?_ ?_) <;> intro h) | ((first | refine OpsL.same ?_ | refine OpsDL.same ?_); first | refine pK C145 rfl rfl ?_ | refine pK C56 rfl rfl ?_ | refine pK C55 rfl rfl ?_) | refine MvQ.stay ?_)
  · (refine rqK rfl ?_; (repeat' first | exact rfl | (refine qS ?_; constructor)))
    rw [gridE, ← unl_of (decide_eq_decide.2 ⟨fun hh => ⟨h, hh⟩, fun hh => hh.2⟩)]
  · (refine rqK rfl ?_; (repeat' first | exact rfl | (refine qS ?_; constructor)))
    rw [gridE, ← unl_of (decide_eq_false fun hh => h hh.1).symm]
theorem C132 {i : Int} {r : Ry} {w g : Int} {d : D} : ((-1000000 ≤ w ∧ w ≤ 1000000) ∧ -1000000 ≤ g ∧ g ≤ 1000000) → PFD Tryz.prog 132 [vi .i64 i, ryv r, .c (.rp [dI w, dI g, d])] (vi .i64 (unl (ryOk r w g) 6)) := fun hw => by
  refine pi1 fn132 ?_
  (repeat' first | (refine Owe.same ?_; first | refine Owe.o ?_ | refine Owe.mk ?_ ?_) | (refine Fork.same ?_; (first | refine fkD ?_ ?_ | refine fkN ?_ ?_ | refine fkM ?_ ?_) <;> intro h) | ((first | refine OpsL.same ?_ | refine OpsDL.same ?_); first | refine pK C113 rfl rfl ?_) | refine MvQ.stay ?_)
  (refine rqK rfl ?_; (repeat' first | exact rfl | (refine qS ?_; constructor)))
theorem C131 {g : FuncId} {rows : List (List D)} {f : Ry → Int} (hg : ∀ (i : Int) (x : Ry), PFD Tryz.prog g (vi .i64 i :: ryv x :: rows.map fun r => .c (.rp r)) (vi .i64 (f x))) {l : List Ry} : l.length ≤ 1000000 → PFD Tryz.prog 131 [.c (rys l), .c (.fnR g rows)] (.tup [vi .i64 (eachE f 0 l).1, vi .i64 (eachE f 0 l).2]) := fun hl => by
  refine pi2 fn131 ?_
  (repeat' first | (refine Owe.same ?_; first | refine Owe.o ?_ | refine Owe.mk ?_ ?_) | (refine Fork.same ?_; (first | refine fkD ?_ ?_ | refine fkN ?_ ?_ | refine fkM ?_ ?_) <;> intro h) | refine MvQ.stay ?_)
  refine Sat.lp0 (fun k : Nat => [(11, vi .i64 k), (10, vi .i64 l.length), (9, .c (rys l)), (1, .c (.fnR g rows))]) (fun k => k ≤ l.length ∧ eachE f 0 l = eachE f k (l.drop k)) (fun k => l.length - k) 0 ⟨Nat.zero_le _, rfl⟩ (by ((first | refine qen ?_ | refine qvs ?_ | refine qeq ?_ | refine qst ?_ | refine qv ?_ | refine qc ?_ | refine qe ?_ | refine qcs ?_ | skip); (repeat' first | exact rfl | (refine qS ?_; constructor)))) ?_
  intro k hk
  (repeat' first | (refine Owe.same ?_; first | refine Owe.o ?_ | refine Owe.mk ?_ ?_) | (refine Fork.same ?_; (first | refine fkD ?_ ?_ | refine fkN ?_ ?_ | refine fkM ?_ ?_) <;> intro h) | ((first | refine OpsL.same ?_ | refine OpsDL.same ?_); first | refine pR (hg _ (l.getD k ryd)) rfl rfl ?_) | refine MvQ.stay ?_)
  · have e := eachE_drop f ryd l k (by omega)
    have h : ¬ f (l.getD k ryd) = 0 := h
    rw [if_neg h, ← hk.2] at e
    (refine rqK rfl ?_; (repeat' first | exact rfl | (refine qS ?_; constructor))) <;> rw [e]
  · have e := eachE_drop f ryd l k (by omega)
    have h : f (l.getD k ryd) = 0 := h
    rw [if_pos h, ← hk.2] at e
    exact again0 (k + 1) ⟨by omega, e⟩ (by omega) (by ((first | refine qen ?_ | refine qvs ?_ | refine qeq ?_ | refine qst ?_ | refine qv ?_ | refine qc ?_ | refine qe ?_ | refine qcs ?_ | skip); (repeat' first | exact rfl | (refine qS ?_; constructor))))
  · have e : eachE f 0 l = (0, 0) := by rw [hk.2, List.drop_of_length_le (by omega)]; rfl
    (refine rqK rfl ?_; (repeat' first | exact rfl | (refine qS ?_; constructor))) <;> rw [e]
/-- The error of a scene, with the index of a ray. -/
def scE (s : Sc) : Int × Int := if gridE s.1 s.2.1 s.2.2.length = 0 then eachE (fun r => unl (ryOk r s.1 s.2.1) 6) 0 s.2.2 else (0, gridE s.1 s.2.1 s.2.2.length)
theorem gridE_ok {w h n : Int} : gridE w h n = 0 ↔ ((1 ≤ w ∧ w ≤ 12) ∧ 1 ≤ h ∧ h ≤ 12) ∧ n ≤ 10 := by
  rw [gridE, fst2, unl0 (by decide), unl0 (by decide)]
theorem C91 {s : Sc} : s.2.2.length ≤ 1000000 → PFD Tryz.prog 91 [scv s] (.tup [vi .i64 (scE s).1, vi .i64 (scE s).2]) := fun hl => by
  obtain ⟨w, g, l⟩ := s
  refine pi2 fn91 ?_
  (repeat' first | (refine Owe.same ?_; first | refine Owe.o ?_ | refine Owe.mk ?_ ?_) | (refine Fork.same ?_; (first | refine fkD ?_ ?_ | refine fkN ?_ ?_ | refine fkM ?_ ?_) <;> intro h) | ((first | refine OpsL.same ?_ | refine OpsDL.same ?_); first | refine pK C110 rfl rfl ?_) | refine MvQ.stay ?_)
  · have h : ¬ gridE w g l.length = 0 := h
    (refine rqK rfl ?_; (repeat' first | exact rfl | (refine qS ?_; constructor))) <;> rw [scE, if_neg h]
  · have h : gridE w g l.length = 0 := h
    have hr : scE (w, g, l) = eachE (fun r => unl (ryOk r w g) 6) 0 l := by rw [scE, if_pos h]
    rw [hr]
    have hb := gridE_ok.1 h
    have c1 := C131 (g := 132) (rows := [scD (w, g, l)]) (f := fun r => unl (ryOk r w g) 6) (fun i x => C132 (w := w) (g := g) (d := rysD l) ⟨by omega, by omega⟩) (l := l) hl
    (repeat' first | (refine Owe.same ?_; first | refine Owe.o ?_ | refine Owe.mk ?_ ?_) | (refine Fork.same ?_; (first | refine fkD ?_ ?_ | refine fkN ?_ ?_ | refine fkM ?_ ?_) <;> intro h) | ((first | refine OpsL.same ?_ | refine OpsDL.same ?_); first | refine pK c1 rfl rfl ?_) | refine MvQ.stay ?_)
    (refine rqK rfl ?_; (repeat' first | exact rfl | (refine qS ?_; constructor)))
theorem C49 {s : Sc} : s.2.2.length ≤ 1000000 → PFD Tryz.prog 49 [scv s] (vi .i64 (scE s).2) := fun hl => by
  refine pi1 fn49 ?_
  (repeat' first | (refine Owe.same ?_; first | refine Owe.o ?_ | refine Owe.mk ?_ ?_) | (refine Fork.same ?_; (first | refine fkD ?_ ?_ | refine fkN ?_ ?_ | refine fkM ?_ ?_) <;> intro h) | ((first | refine OpsL.same ?_ | refine OpsDL.same ?_); first | refine pK (C91 hl) rfl rfl ?_) | refine MvQ.stay ?_)
  (refine rqK rfl ?_; (repeat' first | exact rfl | (refine qS ?_; constructor)))
theorem C118 {c : Pr} {w : Int} : ((0 ≤ c.2 ∧ c.2 ≤ 1000) ∧ (0 ≤ c.1 ∧ c.1 ≤ 1000) ∧ 0 ≤ w ∧ w ≤ 1000) → PFD Tryz.prog 118 [pr c, vi .i64 w] (vi .i64 (c.2 * w + c.1)) := fun ⟨h1, h2, h3⟩ => by
  have m : 0 ≤ c.2 * w ∧ c.2 * w ≤ 1000 * 1000 := ⟨Int.mul_nonneg h1.1 h3.1, Int.mul_le_mul h1.2 h3.2 h3.1 (by decide)⟩
  refine pi1 fn118 ?_
  (repeat' first | (refine Owe.same ?_; first | refine Owe.o ?_ | refine Owe.mk ?_ ?_) | (refine Fork.same ?_; (first | refine fkD ?_ ?_ | refine fkN ?_ ?_ | refine fkM ?_ ?_) <;> intro h) | refine MvQ.stay ?_)
  (refine rqK rfl ?_; (repeat' first | exact rfl | (refine qS ?_; constructor)))
def idxE (n : Int) : Int → List Int → Int
  | _, [] => -1
  | k, x :: l => if n = x then k else idxE n (k + 1) l
theorem idxE_drop (n : Int) (l : List Int) (k : Nat) (h : k < l.length) : idxE n k (l.drop k) = if n = l.getD k 0 then (k : Int) else idxE n ((k + 1 : Nat) : Int) (l.drop (k + 1)) := by
  have e : l.drop k = l.getD k 0 :: l.drop (k + 1) := by
    rw [List.getD_eq_getElem?_getD, List.getElem?_eq_getElem h]; exact List.drop_eq_getElem_cons h
  rw [e, idxE]; rfl
theorem idxE_ge (n : Int) : ∀ (l : List Int) (k : Int), 0 ≤ k → (0 ≤ idxE n k l ↔ n ∈ l)
  | [], k, _ => by simp [idxE]
  | x :: l, k, hk => by
    rw [idxE]
    split
    · rename_i h; subst h; simp [hk]
    · rename_i h; rw [idxE_ge n l (k + 1) (by omega), List.mem_cons]; simp [h]
theorem C99 {l : List Int} {n : Int} : l.length ≤ 1000000 → PFD Tryz.prog 99 [.c (ints l), vi .i64 n] (vi .i64 (idxE n 0 l)) := fun hl => by
  refine pi1 fn99 ?_
  (repeat' first | (refine Owe.same ?_; first | refine Owe.o ?_ | refine Owe.mk ?_ ?_) | (refine Fork.same ?_; (first | refine fkD ?_ ?_ | refine fkN ?_ ?_ | refine fkM ?_ ?_) <;> intro h) | refine MvQ.stay ?_)
  refine Sat.lp0 (fun k : Nat => [(8, vi .i64 k), (7, vi .i64 l.length), (0, .c (ints l)), (1, vi .i64 n)]) (fun k => k ≤ l.length ∧ idxE n 0 l = idxE n k (l.drop k)) (fun k => l.length - k) 0 ⟨Nat.zero_le _, rfl⟩ (by ((first | refine qen ?_ | refine qvs ?_ | refine qeq ?_ | refine qst ?_ | refine qv ?_ | refine qc ?_ | refine qe ?_ | refine qcs ?_ | skip); (repeat' first | exact rfl | (refine qS ?_; constructor)))) ?_
  intro k hk
  (repeat' first | (refine Owe.same ?_; first | refine Owe.o ?_ | refine Owe.mk ?_ ?_) | (refine Fork.same ?_; (first | refine fkD ?_ ?_ | refine fkN ?_ ?_ | refine fkM ?_ ?_) <;> intro h) | refine MvQ.stay ?_)
  · have e := idxE_drop n l k (by omega)
    have h : n = l.getD k 0 := h
    rw [if_pos h, ← hk.2] at e
    (refine rqK rfl ?_; (repeat' first | exact rfl | (refine qS ?_; constructor))); rw [e]
  · have e := idxE_drop n l k (by omega)
    have h : ¬ n = l.getD k 0 := h
    rw [if_neg h, ← hk.2] at e
    exact again0 (k + 1) ⟨by omega, e⟩ (by omega) (by ((first | refine qen ?_ | refine qvs ?_ | refine qeq ?_ | refine qst ?_ | refine qv ?_ | refine qc ?_ | refine qe ?_ | refine qcs ?_ | skip); (repeat' first | exact rfl | (refine qS ?_; constructor))))
  · have e : idxE n 0 l = -1 := by rw [hk.2, List.drop_of_length_le (by omega)]; rfl
    (refine rqK rfl ?_; (repeat' first | exact rfl | (refine qS ?_; constructor))); rw [e]
theorem C64 {l : List Int} {n : Int} : l.length ≤ 1000000 → PFD Tryz.prog 64 [.c (ints l), vi .i64 n] (vbl (decide (n ∈ l))) := fun hl => by
  refine pi1 fn64 ?_
  (repeat' first | (refine Owe.same ?_; first | refine Owe.o ?_ | refine Owe.mk ?_ ?_) | (refine Fork.same ?_; (first | refine fkD ?_ ?_ | refine fkN ?_ ?_ | refine fkM ?_ ?_) <;> intro h) | ((first | refine OpsL.same ?_ | refine OpsDL.same ?_); first | refine pK (C99 hl) rfl rfl ?_) | refine MvQ.stay ?_)
  (refine rqK rfl ?_; (repeat' first | exact rfl | (refine qS ?_; constructor)))
  exact decide_eq_decide.2 (idxE_ge n l 0 (Int.le_refl _))
end Go.Pw

set_option linter.unusedVariables false
set_option maxHeartbeats 2000000
set_option maxRecDepth 100000
namespace Go.Pw
open Go Go.Proofs
/-- moonpool/sonar.said -/
def lc100u : LCode :=
  (.seq (.region [⟨some 2, .box (.tmp 0), none⟩, ⟨some 3, .box (.tmp 1), none⟩, ⟨some 4, .mv (.const .nilFunc), none⟩]) (.seq (.region [⟨some 5, .mkfn 135 [(.tmp 2), (.tmp 3)],
    none⟩, ⟨some 4, .mv (.tmp 5), none⟩]) .ret))
theorem low100u : lowF Tryz.prog [] Tryz.f100 = some (6, lc100u.strip, [.tmp 4]) := by kernel_rfl
theorem fn100u : FnOk Tryz.prog 100 6 lc100u [.tmp 4] := ⟨Tryz.call100, [], _, Tryz.func100, low100u⟩
end Go.Pw

set_option linter.unusedSimpArgs false
set_option linter.unusedVariables false
namespace Go.Pw
set_option maxRecDepth 2000
open Go Go.Proofs A1 A2 A3 A4
/-- Both bits, as the program has them. -/
def orI (a b : Int) : Int := IntKind.i64.wrap ((BitVec.ofInt IntKind.i64.bits a ||| BitVec.ofInt IntKind.i64.bits b).toNat : Nat)
def stC (r : Ry) (c : Cel) : Int := if c = r.2.1 ∧ r.2.2 = true then 2 else 1
def cellN (w : Int) (c : Cel) : Nat := (c.2 * w + c.1).toNat
def updS (w : Int) (r : Ry) (out : List Int) (c : Cel) : List Int := out.set (cellN w c) (orI (out.getD (cellN w c) 0) (stC r c))
def stR (w : Int) (r : Ry) (out : List Int) : List Int := (crS r).foldl (updS w r) out
/-- The states after so many rays. -/
def stK (s : Sc) (wo : List Int) : Nat → List Int
  | 0 => List.replicate (s.1 * s.2.1).toNat 0
  | k + 1 => if (k : Int) ∈ wo then stK s wo k else stR s.1 (s.2.2.getD k ryd) (stK s wo k)
def stS (s : Sc) (wo : List Int) : List Int := stK s wo s.2.2.length
structure ScOk (s : Sc) : Prop where
  w : 1 ≤ s.1 ∧ s.1 ≤ 12
  h : 1 ≤ s.2.1 ∧ s.2.1 ≤ 12
  n : s.2.2.length ≤ 10
  r : ∀ i, i < s.2.2.length → ryOk (s.2.2.getD i ryd) s.1 s.2.1
/-- The states when so many cells of a ray are seen to. -/
def stJ (w : Int) (r : Ry) (out : List Int) (j : Nat) : List Int := ((crS r).take j).foldl (updS w r) out
theorem stJ_succ {w : Int} {r : Ry} {out : List Int} {j : Nat} (h : j < (crS r).length) : stJ w r out (j + 1) = updS w r (stJ w r out j) ((crS r).getD j (0, 0)) := by
  rw [stJ, stJ, List.take_add_one, List.foldl_append, List.getElem?_eq_getElem h, List.getD_eq_getElem?_getD, List.getElem?_eq_getElem h]; rfl
theorem stJ_all {w : Int} {r : Ry} {out : List Int} : stJ w r out (crS r).length = stR w r out := by rw [stJ, List.take_length]; rfl
theorem foldU_len {w : Int} {r : Ry} : ∀ (l : List Cel) (out : List Int), (l.foldl (updS w r) out).length = out.length
  | [], _ => rfl
  | c :: l, out => by rw [List.foldl_cons, foldU_len l]; simp [updS]
theorem stK_len {s : Sc} {wo : List Int} : ∀ k, (stK s wo k).length = (s.1 * s.2.1).toNat
  | 0 => by simp [stK]
  | k + 1 => by
    rw [stK]; split
    · exact stK_len k
    · rw [stR, foldU_len]; exact stK_len k
theorem crS_in {r : Ry} {w g : Int} (hO : ryOk r w g) {c : Cel} (hc : c ∈ crS r) : inG c w g := by
  obtain ⟨_, hx, hy⟩ := crS_mem.1 hc
  obtain ⟨h1, h2⟩ := hO
  simp only [inG, Ry.x0, Ry.y0, Ry.wn, Ry.hn, Ry.dx, Ry.dy, sz] at *
  omega
theorem stC_2 {r : Ry} {c : Cel} (h : (decide (c.1 = r.2.1.1) && decide (c.2 = r.2.1.2)) = true) (h2 : r.2.2 = true) : stC r c = 2 := by
  simp only [Bool.and_eq_true, decide_eq_true_eq] at h
  rw [stC, if_pos ⟨Prod.ext h.1 h.2, h2⟩]
theorem stC_1a {r : Ry} {c : Cel} (h : (decide (c.1 = r.2.1.1) && decide (c.2 = r.2.1.2)) = false) : stC r c = 1 := by
  rw [stC, if_neg]
  rintro ⟨rfl, _⟩
  simp at h
theorem stC_1b {r : Ry} {c : Cel} (h : r.2.2 = false) : stC r c = 1 := by
  rw [stC, if_neg]
  rintro ⟨_, h2⟩
  rw [h] at h2; cases h2
theorem cell_bd {c : Cel} {w g : Int} (hc : inG c w g) (hw : 1 ≤ w) : 0 ≤ c.2 * w + c.1 ∧ c.2 * w + c.1 < w * g := by
  simp only [inG] at hc
  have h1 : 0 ≤ c.2 * w := Int.mul_nonneg (by omega) (by omega)
  have h2 : c.2 * w ≤ (g - 1) * w := Int.mul_le_mul_of_nonneg_right (by omega) (by omega)
  rw [Int.sub_mul, Int.one_mul, Int.mul_comm g w] at h2
  omega
theorem C65 {s : Sc} {wo : List Int} : (ScOk s ∧ wo.length ≤ 1000000) → PFD Tryz.prog 65 [scv s, .c (ints wo)] (.c (ints (stS s wo))) := fun ⟨hO, hwo⟩ => by
  obtain ⟨w, g, l⟩ := s
  have hw := hO.w; have hh := hO.h; have hn := hO.n
  simp only at hw hh hn
  obtain ⟨S, hS⟩ : ∃ S, S = stS (w, g, l) wo := ⟨_, rfl⟩
  rw [← hS]
  have mwg : 1 ≤ w * g ∧ w * g ≤ 144 := by
    have h1 : (1 : Int) * 1 ≤ w * g := Int.mul_le_mul hw.1 hh.1 (by decide) (by omega)
    have h2 : w * g ≤ 12 * 12 := Int.mul_le_mul hw.2 hh.2 (by omega) (by decide)
    omega
  refine pi1 fn65 ?_
  (repeat' first | (refine Owe.same ?_; first | refine Owe.o ?_ | refine Owe.mk ?_ ?_) | (refine Fork.same ?_; (first | refine fkD ?_ ?_ | refine fkN ?_ ?_ | refine fkM ?_ ?_) <;> intro h) | refine MvQ.stay ?_)
  refine Sat.lp (fun k : Nat => ⟨[(18, vi .i64 k), (17, vi .i64 l.length), (16, .c (rys l)), (1, .c (ints wo)), (2, .c (.rp (scD (w, g, l)))), (5, .c (.bp 1 0))], [(1, .box [.ms 0 (stK (w, g, l) wo k).length]), (0, rowv 3 1 r1 0 (stK (w, g, l) wo k))], 2⟩)
    (fun k => k ≤ l.length) (fun k => l.length - k) 0 [0, 1] (Nat.zero_le _) ?_ ?_
  · (refine qis ?_ ?_ <;> (repeat' first | exact rfl | (refine qS ?_; constructor)))
    · simp [stK]
    · exact ⟨0, rfl, rfl⟩
  · intro k hk
    refine Fork.dec (fun hlt => ?_) (fun hlt => ?_)
    · have hlt : k < l.length := by omega
      have hr := hO.r k hlt
      simp only at hr
      (repeat' first | (refine Owe.same ?_; first | refine Owe.o ?_ | refine Owe.mk ?_ ?_) | (refine Fork.same ?_; (first | refine fkD ?_ ?_ | refine fkN ?_ ?_ | refine fkM ?_ ?_) <;> intro h) | ((first | refine OpsL.same ?_ | refine OpsDL.same ?_); first | refine pK C64 rfl rfl ?_) | refine MvQ.stay ?_)
      · have e : stK (w, g, l) wo (k + 1) = stK (w, g, l) wo k := by rw [stK, if_pos h]
        refine again (k + 1) [0, 1] hlt (by omega) ?_
        rw [e]
        (refine qis ?_ ?_ <;> (repeat' first | exact rfl | (refine qS ?_; constructor)))
      · have e : stK (w, g, l) wo (k + 1) = stR w (l.getD k ryd) (stK (w, g, l) wo k) := by rw [stK, if_neg h]
        (repeat' first | (refine Owe.same ?_; first | refine Owe.o ?_ | refine Owe.mk ?_ ?_) | (refine Fork.same ?_; (first | refine fkD ?_ ?_ | refine fkN ?_ ?_ | refine fkM ?_ ?_) <;> intro h) | refine MvQ.stay ?_)
        refine Ops.cs rfl rfl (CallS.of fn100u rfl ?_)
        (repeat' first | (refine Owe.same ?_; first | refine Owe.o ?_ | refine Owe.mk ?_ ?_) | (refine Fork.same ?_; (first | refine fkD ?_ ?_ | refine fkN ?_ ?_ | refine fkM ?_ ?_) <;> intro h) | refine MvQ.stay ?_)
        refine Sat.keep [1, 2, 5, 16, 17, 18, 29] ?_
        refine Sat.rf rfl rfl (CallS.of fn135 rfl ?_)
        (repeat' first | (refine Owe.same ?_; first | refine Owe.o ?_ | refine Owe.mk ?_ ?_) | (refine Fork.same ?_; (first | refine fkD ?_ ?_ | refine fkN ?_ ?_ | refine fkM ?_ ?_) <;> intro h) | refine MvQ.stay ?_)
        have hr12 : ryOk (l.getD k ryd) 12 12 := by simp only [ryOk, inG] at hr ⊢; omega
        have c44 := C116 hr12
        have hin : ∀ c ∈ crS (l.getD k ryd), inG c w g := fun c hc => crS_in hr hc
        have hlen := stK_len (s := (w, g, l)) (wo := wo) k
        have hcl : (crS (l.getD k ryd)).length ≤ 12 * 12 := by
          have h1 := wn_le hr12
          have h2 := hn_le hr12
          exact Nat.le_trans crS_len (Nat.mul_le_mul (by omega) (by omega))
        (repeat' first | (refine Owe.same ?_; first | refine Owe.o ?_ | refine Owe.mk ?_ ?_) | (refine Fork.same ?_; (first | refine fkD ?_ ?_ | refine fkN ?_ ?_ | refine fkM ?_ ?_) <;> intro h) | ((first | refine OpsL.same ?_ | refine OpsDL.same ?_); first | refine pK c44 rfl rfl ?_) | refine MvQ.stay ?_)
        refine Sat.lp (fun j : Nat => ⟨[(10, vi .i64 j), (9, vi .i64 (crS (l.getD k ryd)).length), (8, .c (prs (crS (l.getD k ryd)))), (0, .c (.yd 5)), (1, .c (.bp 3 0)), (2, .c (.bp 4 0))],
            [(5, .lp [(1, .c (ints wo)), (2, .c (.rp (scD (w, g, l)))), (5, .c (.bp 1 0)), (16, .c (rys l)), (17, vi .i64 l.length), (18, vi .i64 k), (29, .c (.fn 135 [3, 4]))] .ready none (RR Tryz.prog 42 [30] ra65 rb65)),
              (4, .box [int w]), (3, .box [int (l.getD k ryd).1.1, int (l.getD k ryd).1.2, int (l.getD k ryd).2.1.1, int (l.getD k ryd).2.1.2, .d (.v (.bool (l.getD k ryd).2.2))]),
              (1, .box [.ms 0 (stJ w (l.getD k ryd) (stK (w, g, l) wo k) j).length]), (0, rowv 3 1 r1 0 (stJ w (l.getD k ryd) (stK (w, g, l) wo k) j))], 6⟩)
          (fun j => j ≤ (crS (l.getD k ryd)).length) (fun j => (crS (l.getD k ryd)).length - j) 0 [] (Nat.zero_le _) ?_ ?_
        · (refine qis ?_ ?_ <;> (repeat' first | exact rfl | (refine qS ?_; constructor)))
        · intro j hj
          refine Fork.dec (fun hlt => ?_) (fun hlt => ?_)
          · have hlt : j < (crS (l.getD k ryd)).length := by omega
            have hc : inG ((crS (l.getD k ryd)).getD j (0, 0)) w g := hin _ (getD_mem (0, 0) hlt)
            have mc := cell_bd hc hw.1
            have hjl : ∀ j, (stJ w (l.getD k ryd) (stK (w, g, l) wo k) j).length = (w * g).toNat := fun j => by rw [stJ, foldU_len]; exact hlen
            have hj1 := hjl j
            have hu := stJ_succ (w := w) (out := stK (w, g, l) wo k) hlt
            simp only [inG] at hc
            (repeat' first | (refine Owe.same ?_; first | refine Owe.o ?_ | refine Owe.mk ?_ ?_) | (refine Fork.same ?_; (first | refine fkD ?_ ?_ | refine fkN ?_ ?_ | refine fkM ?_ ?_) <;> intro h) | ((first | refine OpsL.same ?_ | refine OpsDL.same ?_); first | refine pK C118 rfl rfl ?_) | refine MvQ.stay ?_)
            · rename_i h1
              have hst : stC (l.getD k ryd) ((crS (l.getD k ryd)).getD j (0, 0)) = 2 := stC_2 h1 h
              refine Ops.yd rfl rfl rfl rfl rfl ?_
              (repeat' first | (refine Owe.same ?_; first | refine Owe.o ?_ | refine Owe.mk ?_ ?_) | (refine Fork.same ?_; (first | refine fkD ?_ ?_ | refine fkN ?_ ?_ | refine fkM ?_ ?_) <;> intro h) | refine MvQ.stay ?_)
              refine And.intro rfl (Exists.intro _ (And.intro rfl ?_))
              (repeat' first | (refine Owe.same ?_; first | refine Owe.o ?_ | refine Owe.mk ?_ ?_) | (refine Fork.same ?_; (first | refine fkD ?_ ?_ | refine fkN ?_ ?_ | refine fkM ?_ ?_) <;> intro h) | refine MvQ.stay ?_)
              refine Exists.intro _ (Exists.intro _ (Exists.intro _ (And.intro rfl ?_)))
              (repeat' first | (refine Owe.same ?_; first | refine Owe.o ?_ | refine Owe.mk ?_ ?_) | (refine Fork.same ?_; (first | refine fkD ?_ ?_ | refine fkN ?_ ?_ | refine fkM ?_ ?_) <;> intro h) | refine MvQ.stay ?_)
              refine again (j + 1) [] hlt (by omega) ?_
              (refine qis ?_ ?_ <;> (repeat' first | exact rfl | (refine qS ?_; constructor)))
              · rw [hjl, hjl]
              · refine ⟨orI ((stJ w (l.getD k ryd) (stK (w, g, l) wo k) j).getD (cellN w ((crS (l.getD k ryd)).getD j (0, 0))) 0) 2, rfl, ?_⟩
                rw [hu, updS, hst]; rfl
            · have hst : stC (l.getD k ryd) ((crS (l.getD k ryd)).getD j (0, 0)) = 1 := stC_1b h
              refine Ops.yd rfl rfl rfl rfl rfl ?_
              (repeat' first | (refine Owe.same ?_; first | refine Owe.o ?_ | refine Owe.mk ?_ ?_) | (refine Fork.same ?_; (first | refine fkD ?_ ?_ | refine fkN ?_ ?_ | refine fkM ?_ ?_) <;> intro h) | refine MvQ.stay ?_)
              refine And.intro rfl (Exists.intro _ (And.intro rfl ?_))
              (repeat' first | (refine Owe.same ?_; first | refine Owe.o ?_ | refine Owe.mk ?_ ?_) | (refine Fork.same ?_; (first | refine fkD ?_ ?_ | refine fkN ?_ ?_ | refine fkM ?_ ?_) <;> intro h) | refine MvQ.stay ?_)
              refine Exists.intro _ (Exists.intro _ (Exists.intro _ (And.intro rfl ?_)))
              (repeat' first | (refine Owe.same ?_; first | refine Owe.o ?_ | refine Owe.mk ?_ ?_) | (refine Fork.same ?_; (first | refine fkD ?_ ?_ | refine fkN ?_ ?_ | refine fkM ?_ ?_) <;> intro h) | refine MvQ.stay ?_)
              refine again (j + 1) [] hlt (by omega) ?_
              (refine qis ?_ ?_ <;> (repeat' first | exact rfl | (refine qS ?_; constructor)))
              · rw [hjl, hjl]
              · refine ⟨orI ((stJ w (l.getD k ryd) (stK (w, g, l) wo k) j).getD (cellN w ((crS (l.getD k ryd)).getD j (0, 0))) 0) 1, rfl, ?_⟩
                rw [hu, updS, hst]; rfl
            · have hst : stC (l.getD k ryd) ((crS (l.getD k ryd)).getD j (0, 0)) = 1 := stC_1a h
              refine Ops.yd rfl rfl rfl rfl rfl ?_
              (repeat' first | (refine Owe.same ?_; first | refine Owe.o ?_ | refine Owe.mk ?_ ?_) | (refine Fork.same ?_; (first | refine fkD ?_ ?_ | refine fkN ?_ ?_ | refine fkM ?_ ?_) <;> intro h) | refine MvQ.stay ?_)
              refine And.intro rfl (Exists.intro _ (And.intro rfl ?_))
              (repeat' first | (refine Owe.same ?_; first | refine Owe.o ?_ | refine Owe.mk ?_ ?_) | (refine Fork.same ?_; (first | refine fkD ?_ ?_ | refine fkN ?_ ?_ | refine fkM ?_ ?_) <;> intro h) | refine MvQ.stay ?_)
              refine Exists.intro _ (Exists.intro _ (Exists.intro _ (And.intro rfl ?_)))
              (repeat' first | (refine Owe.same ?_; first | refine Owe.o ?_ | refine Owe.mk ?_ ?_) | (refine Fork.same ?_; (first | refine fkD ?_ ?_ | refine fkN ?_ ?_ | refine fkM ?_ ?_) <;> intro h) | refine MvQ.stay ?_)
              refine again (j + 1) [] hlt (by omega) ?_
              (refine qis ?_ ?_ <;> (repeat' first | exact rfl | (refine qS ?_; constructor)))
              · rw [hjl, hjl]
              · refine ⟨orI ((stJ w (l.getD k ryd) (stK (w, g, l) wo k) j).getD (cellN w ((crS (l.getD k ryd)).getD j (0, 0))) 0) 1, rfl, ?_⟩
                rw [hu, updS, hst]; rfl
          · (repeat' first | (refine Owe.same ?_; first | refine Owe.o ?_ | refine Owe.mk ?_ ?_) | (refine Fork.same ?_; (first | refine fkD ?_ ?_ | refine fkN ?_ ?_ | refine fkM ?_ ?_) <;> intro h) | refine MvQ.stay ?_)
            have : j = (crS (l.getD k ryd)).length := by omega
            subst this
            refine again (k + 1) [0, 1] (by omega) (by omega) ?_
            simp only [e, ← stJ_all]
            (refine qis ?_ ?_ <;> (repeat' first | exact rfl | (refine qS ?_; constructor)))
    · (repeat' first | (refine Owe.same ?_; first | refine Owe.o ?_ | refine Owe.mk ?_ ?_) | (refine Fork.same ?_; (first | refine fkD ?_ ?_ | refine fkN ?_ ?_ | refine fkM ?_ ?_) <;> intro h) | refine MvQ.stay ?_)
      have : k = l.length := by omega
      subst this
      have e : S = stK (w, g, l) wo l.length := hS
      subst e
      refine rqF 0 _ rfl rfl rfl ?_; (repeat' first | exact rfl | (refine qS ?_; constructor))
end Go.Pw

set_option linter.unusedSimpArgs false
set_option linter.unusedVariables false
namespace Go.Pw
set_option maxRecDepth 2000
open Go Go.Proofs A1 A2 A3 A4
theorem scE_ok {s : Sc} : (scE s).2 = 0 ↔ gridE s.1 s.2.1 s.2.2.length = 0 ∧ ∀ r ∈ s.2.2, ryOk r s.1 s.2.1 := by
  rw [scE]
  split
  · rename_i h
    rw [eachE_ok]
    constructor
    · intro h1; exact ⟨h, fun r hr => (unl0 (by decide)).1 (h1 r hr)⟩
    · intro h1 r hr; exact (unl0 (by decide)).2 (h1.2 r hr)
  · rename_i h
    constructor
    · intro h1; exact absurd h1 h
    · intro h1; exact absurd h1.1 h
theorem scE_sc {s : Sc} (h : (scE s).2 = 0) : ScOk s := by
  obtain ⟨h1, h2⟩ := scE_ok.1 h
  have := gridE_ok.1 h1
  exact ⟨this.1.1, this.1.2, by omega, fun i hi => h2 _ (getD_mem _ hi)⟩
theorem C35 {s : Sc} : s.2.2.length ≤ 1000000 → PFD Tryz.prog 35 [scv s] (.tup [.c (ints (if (scE s).2 = 0 then stS s [] else [])), vi .i64 (scE s).2]) := fun hl => by
  by_cases h0 : (scE s).2 = 0
  · rw [if_pos h0]
    have hO := scE_sc h0
    have c71 := C65 (s := s) (wo := []) ⟨hO, by simp⟩
    obtain ⟨S, hS⟩ : ∃ S, S = stS s [] := ⟨_, rfl⟩
    rw [← hS] at c71 ⊢
    refine pi2 fn35 ?_
    (repeat' first | (refine Owe.same ?_; first | refine Owe.o ?_ | refine Owe.mk ?_ ?_) | (refine Fork.same ?_; (first | refine fkD ?_ ?_ | refine fkN ?_ ?_ | refine fkM ?_ ?_) <;> intro h) | ((first | refine OpsL.same ?_ | refine OpsDL.same ?_); first | refine pK (C49 hl) rfl rfl ?_ | refine pK c71 rfl rfl ?_) | refine MvQ.stay ?_)
    · exact absurd h0 h
    · (refine rqK rfl ?_; (repeat' first | exact rfl | (refine qS ?_; constructor)))
      exact h0.symm
  · rw [if_neg h0]
    refine pi2 fn35 ?_
    (repeat' first | (refine Owe.same ?_; first | refine Owe.o ?_ | refine Owe.mk ?_ ?_) | (refine Fork.same ?_; (first | refine fkD ?_ ?_ | refine fkN ?_ ?_ | refine fkM ?_ ?_) <;> intro h) | ((first | refine OpsL.same ?_ | refine OpsDL.same ?_); first | refine pK (C49 hl) rfl rfl ?_) | refine MvQ.stay ?_)
    · (refine rqK rfl ?_; (repeat' first | exact rfl | (refine qS ?_; constructor)))
    · exact absurd h h0
def odC (s : Sc) (t : List Int) : Int × Bool := ((t.length : Int), !decide ((3 : Int) ∈ stS s t))
theorem C63 {s : Sc} {t : List Int} : (ScOk s ∧ t.length ≤ 1000000) → PFD Tryz.prog 63 [.c (ints t), .c (.rp (scD s))] (.tup [vi .i64 (odC s t).1, vbl (odC s t).2]) := fun ⟨hO, ht⟩ => by
  have c71 := C65 (s := s) (wo := t) ⟨hO, ht⟩
  have hl : (stS s t).length ≤ 144 := by
    rw [stS, stK_len]
    have h2 : s.1 * s.2.1 ≤ 12 * 12 := Int.mul_le_mul hO.w.2 hO.h.2 (by have := hO.h; omega) (by decide)
    omega
  rw [odC]
  generalize stS s t = S at *
  refine pi2 fn63 ?_
  (repeat' first | (refine Owe.same ?_; first | refine Owe.o ?_ | refine Owe.mk ?_ ?_) | (refine Fork.same ?_; (first | refine fkD ?_ ?_ | refine fkN ?_ ?_ | refine fkM ?_ ?_) <;> intro h) | ((first | refine OpsL.same ?_ | refine OpsDL.same ?_); first | refine pK c71 rfl rfl ?_ | refine pK C64 rfl rfl ?_) | refine MvQ.stay ?_)
  (refine rqK rfl ?_; (repeat' first | exact rfl | (refine qS ?_; constructor)))
theorem C29 {s : Sc} : s.2.2.length ≤ 1000000 → PFD Tryz.prog 29 [scv s] (.tup [.c (ints (if (scE s).2 = 0 then (bestK (odC s) s.2.2.length (2 ^ s.2.2.length)).l else [])), vi .i64 (scE s).2]) := fun hl => by
  by_cases h0 : (scE s).2 = 0
  · rw [if_pos h0]
    have hO := scE_sc h0
    have c68 := C62 (g := 63) (rows := [scD s]) (c := odC s) (n := s.2.2.length) (fun t ht _ => C63 ⟨hO, ht⟩) (by have := hO.n; omega)
    generalize bestK (odC s) s.2.2.length (2 ^ s.2.2.length) = B at *
    refine pi2 fn29 ?_
    (repeat' first | (refine Owe.same ?_; first | refine Owe.o ?_ | refine Owe.mk ?_ ?_) | (refine Fork.same ?_; (first | refine fkD ?_ ?_ | refine fkN ?_ ?_ | refine fkM ?_ ?_) <;> intro h) | ((first | refine OpsL.same ?_ | refine OpsDL.same ?_); first | refine pK (C49 hl) rfl rfl ?_ | refine pK c68 rfl rfl ?_) | refine MvQ.stay ?_)
    · exact absurd h0 h
    · (refine rqK rfl ?_; (repeat' first | exact rfl | (refine qS ?_; constructor)))
      exact h0.symm
  · rw [if_neg h0]
    refine pi2 fn29 ?_
    (repeat' first | (refine Owe.same ?_; first | refine Owe.o ?_ | refine Owe.mk ?_ ?_) | (refine Fork.same ?_; (first | refine fkD ?_ ?_ | refine fkN ?_ ?_ | refine fkM ?_ ?_) <;> intro h) | ((first | refine OpsL.same ?_ | refine OpsDL.same ?_); first | refine pK (C49 hl) rfl rfl ?_) | refine MvQ.stay ?_)
    · (refine rqK rfl ?_; (repeat' first | exact rfl | (refine qS ?_; constructor)))
    · exact absurd h h0
end Go.Pw

set_option linter.unusedSimpArgs false
set_option linter.unusedVariables false
namespace Go.Pw
set_option maxRecDepth 2000
open Go Go.Proofs A1 A2 A3 A4
abbrev Vw := Ry × Int
abbrev vwd : Vw := (ryd, 0)
abbrev r6 (v : Vw) : List D := [dI v.1.1.1, dI v.1.1.2, dI v.1.2.1.1, dI v.1.2.1.2, .v (.bool v.1.2.2), dI v.2]
abbrev vws (l : List Vw) : C := slv 6 r6 vwd l
abbrev Se := Int × Int × List Vw × List Int
abbrev sev (x : Se) : V := .agg [int x.1, int x.2.1, vws x.2.2.1, ints x.2.2.2]
abbrev seb (x : Se) : List C := [int x.1, int x.2.1, vws x.2.2.1, ints x.2.2.2]
/-- The error of a view. -/
def vwE (w h : Int) (v : Vw) : Int := fstE [unl (ryOk v.1 w h) 6, unl (0 ≤ v.2 ∧ v.2 ≤ 1000) 2]
/-- The error of a wanted cell, after another one. -/
def wnE (m last x : Int) : Int := fstE [unl (0 ≤ x ∧ x ≤ m - 1) 6, unl (last < x) 9]
def eachW (m : Int) : Int → Nat → List Int → Int × Int
  | _, _, [] => (0, 0)
  | last, k, x :: l => if wnE m last x = 0 then eachW m x (k + 1) l else ((k : Int), wnE m last x)
theorem eachW_drop (m last : Int) (l : List Int) (k : Nat) (h : k < l.length) : eachW m last k (l.drop k) = if wnE m last (l.getD k 0) = 0 then eachW m (l.getD k 0) (k + 1) (l.drop (k + 1)) else ((k : Int), wnE m last (l.getD k 0)) := by
  have e : l.drop k = l.getD k 0 :: l.drop (k + 1) := by
    rw [List.getD_eq_getElem?_getD, List.getElem?_eq_getElem h]; exact List.drop_eq_getElem_cons h
  rw [e, eachW]
/-- The error of a search, with an index. -/
def seE (x : Se) : Int × Int := if gridE x.1 x.2.1 x.2.2.1.length = 0 then (if (eachE (vwE x.1 x.2.1) 0 x.2.2.1).2 = 0 then eachW (x.1 * x.2.1) (-1) 0 x.2.2.2 else eachE (vwE x.1 x.2.1) 0 x.2.2.1) else (0, gridE x.1 x.2.1 x.2.2.1.length)
theorem vwE_of {w g : Int} {v : Vw} {e : Int} (h : ¬ fstE [unl (ryOk v.1 w g) 6, e] = 0) (he : e = unl (0 ≤ v.2 ∧ v.2 ≤ 1000) 2) : ¬ vwE w g v = 0 := by subst he; exact h
theorem C81 {x : Se} : (x.2.2.1.length ≤ 1000000 ∧ x.2.2.2.length ≤ 1000000) → PFD Tryz.prog 81 [sev x] (.tup [vi .i64 (seE x).1, vi .i64 (seE x).2]) := fun ⟨hl, hm⟩ => by
  obtain ⟨w, g, l, m⟩ := x
  simp only at hl hm
  refine pi2 fn81 ?_
  (repeat' first | (refine Owe.same ?_; first | refine Owe.o ?_ | refine Owe.mk ?_ ?_) | (refine Fork.same ?_; (first | refine fkD ?_ ?_ | refine fkN ?_ ?_ | refine fkM ?_ ?_) <;> intro h) | ((first | refine OpsL.same ?_ | refine OpsDL.same ?_); first | refine pK C110 rfl rfl ?_) | refine MvQ.stay ?_)
  · have h : ¬ gridE w g l.length = 0 := h
    (refine rqK rfl ?_; (repeat' first | exact rfl | (refine qS ?_; constructor))) <;> rw [seE, if_neg h]
  have h : gridE w g l.length = 0 := h
  have hb := gridE_ok.1 h
  have hr : seE (w, g, l, m) = if (eachE (vwE w g) 0 l).2 = 0 then eachW (w * g) (-1) 0 m else eachE (vwE w g) 0 l := by rw [seE, if_pos h]
  rw [hr]
  obtain ⟨E, hE⟩ : ∃ E, E = eachE (vwE w g) 0 l := ⟨_, rfl⟩
  rw [← hE]
  refine Ops.cs rfl rfl (CallS.of fn111 rfl ?_)
  (repeat' first | (refine Owe.same ?_; first | refine Owe.o ?_ | refine Owe.mk ?_ ?_) | (refine Fork.same ?_; (first | refine fkD ?_ ?_ | refine fkN ?_ ?_ | refine fkM ?_ ?_) <;> intro h) | refine MvQ.stay ?_)
  refine Sat.lp (fun k : Nat => ⟨[(11, vi .i64 k), (10, vi .i64 l.length), (9, .c (vws l)), (1, .c (.fn 112 [0]))], [(0, .box (seb (w, g, l, m)))], 1⟩) (fun k => k ≤ l.length ∧ E = eachE (vwE w g) k (l.drop k)) (fun k => l.length - k) 0 [] ⟨Nat.zero_le _, hE⟩ ?_ ?_
  · (refine qis ?_ ?_ <;> (repeat' first | exact rfl | (refine qS ?_; constructor)))
  · intro k hk
    refine Fork.dec (fun hlt => ?_) (fun hlt => ?_)
    · have hlt : k < l.length := by omega
      have e := eachE_drop (vwE w g) vwd l k hlt
      (repeat' first | (refine Owe.same ?_; first | refine Owe.o ?_ | refine Owe.mk ?_ ?_) | (refine Fork.same ?_; (first | refine fkD ?_ ?_ | refine fkN ?_ ?_ | refine fkM ?_ ?_) <;> intro h) | refine MvQ.stay ?_)
      refine Ops.cs rfl rfl (CallS.of fn112 rfl ?_)
      have c43 := C113 (r := (l.getD k vwd).1) (w := w) (g := g) ⟨by omega, by omega⟩
      (repeat' first | (refine Owe.same ?_; first | refine Owe.o ?_ | refine Owe.mk ?_ ?_) | (refine Fork.same ?_; (first | refine fkD ?_ ?_ | refine fkN ?_ ?_ | refine fkM ?_ ?_) <;> intro h) | ((first | refine OpsL.same ?_ | refine OpsDL.same ?_); first | refine pK c43 rfl rfl ?_ | refine pK C69 rfl rfl ?_ | refine pK C56 rfl rfl ?_ | refine pK C55 rfl rfl ?_) | refine MvQ.stay ?_)
      · have h9 := vwE_of h rfl
        have h9 : ¬ vwE w g (l.getD k vwd) = 0 := h9
        rw [if_neg h9, ← hk.2] at e
        have hE2 : ¬ E.2 = 0 := by rw [e]; exact h9
        (refine rqK rfl ?_; (repeat' first | exact rfl | (refine qS ?_; constructor)))
        · rw [if_neg hE2, e]
        · rw [if_neg hE2, e]; rfl
      · rename_i h1
        exact absurd h h1
      · have h9 : vwE w g (l.getD k vwd) = 0 := h
        rw [if_pos h9, ← hk.2] at e
        refine again (k + 1) [] ⟨hlt, e⟩ (by omega) ?_
        (refine qis ?_ ?_ <;> (repeat' first | exact rfl | (refine qS ?_; constructor)))
    · (repeat' first | (refine Owe.same ?_; first | refine Owe.o ?_ | refine Owe.mk ?_ ?_) | (refine Fork.same ?_; (first | refine fkD ?_ ?_ | refine fkN ?_ ?_ | refine fkM ?_ ?_) <;> intro h) | refine MvQ.stay ?_)
      · exact absurd rfl h
      · have : k = l.length := by omega
        subst this
        have e : E = (0, 0) := by rw [hk.2, List.drop_of_length_le (Nat.le_refl _)]; rfl
        rw [e, if_pos rfl]
        (repeat' first | (refine Owe.same ?_; first | refine Owe.o ?_ | refine Owe.mk ?_ ?_) | (refine Fork.same ?_; (first | refine fkD ?_ ?_ | refine fkN ?_ ?_ | refine fkM ?_ ?_) <;> intro h) | refine MvQ.stay ?_)
        obtain ⟨q, hq⟩ : ∃ q, q = eachW (w * g) (-1) 0 m := ⟨_, rfl⟩
        rw [← hq]
        have mwg : 1 ≤ w * g ∧ w * g ≤ 144 := by
          have h1 : (1 : Int) * 1 ≤ w * g := Int.mul_le_mul hb.1.1.1 hb.1.2.1 (by decide) (by omega)
          have h2 : w * g ≤ 12 * 12 := Int.mul_le_mul hb.1.1.2 hb.1.2.2 (by omega) (by decide)
          omega
        refine Ops.cs rfl rfl (CallS.of fn114 rfl ?_)
        (repeat' first | (refine Owe.same ?_; first | refine Owe.o ?_ | refine Owe.mk ?_ ?_) | (refine Fork.same ?_; (first | refine fkD ?_ ?_ | refine fkN ?_ ?_ | refine fkM ?_ ?_) <;> intro h) | refine MvQ.stay ?_)
        refine Sat.lp (fun k : Nat => ⟨[(11, vi .i64 k), (10, vi .i64 m.length), (9, .c (ints m)), (1, .c (.fn 115 [0, 1]))], [(1, .box [int (if k = 0 then -1 else m.getD (k - 1) 0)]), (0, .box (seb (w, g, l, m)))], 2⟩) (fun k => k ≤ m.length ∧ q = eachW (w * g) (if k = 0 then -1 else m.getD (k - 1) 0) k (m.drop k)) (fun k => m.length - k) 0 [] ⟨Nat.zero_le _, hq⟩ ?_ ?_
        · (refine qis ?_ ?_ <;> (repeat' first | exact rfl | (refine qS ?_; constructor)))
        · intro k hk
          refine Fork.dec (fun hlt => ?_) (fun hlt => ?_)
          · have hlt : k < m.length := by omega
            obtain ⟨last, hla⟩ : ∃ x, x = if k = 0 then -1 else m.getD (k - 1) 0 := ⟨_, rfl⟩
            rw [← hla] at hk ⊢
            have e := eachW_drop (w * g) last m k hlt
            (repeat' first | (refine Owe.same ?_; first | refine Owe.o ?_ | refine Owe.mk ?_ ?_) | (refine Fork.same ?_; (first | refine fkD ?_ ?_ | refine fkN ?_ ?_ | refine fkM ?_ ?_) <;> intro h) | refine MvQ.stay ?_)
            refine Ops.cs rfl rfl (CallS.of fn115 rfl ?_)
            (repeat' first | (refine Owe.same ?_; first | refine Owe.o ?_ | refine Owe.mk ?_ ?_) | (refine Fork.same ?_; (first | refine fkD ?_ ?_ | refine fkN ?_ ?_ | refine fkM ?_ ?_) <;> intro h) | ((first | refine OpsL.same ?_ | refine OpsDL.same ?_); first | refine pK C69 rfl rfl ?_ | refine pK C56 rfl rfl ?_ | refine pK C55 rfl rfl ?_) | refine MvQ.stay ?_)
            · have h : ¬ wnE (w * g) last (m.getD k 0) = 0 := h
              rw [if_neg h, ← hk.2] at e
              (refine rqK rfl ?_; (repeat' first | exact rfl | (refine qS ?_; constructor)))
              · rw [e]
              · rw [e]; rfl
            · have h : wnE (w * g) last (m.getD k 0) = 0 := h
              rw [if_pos h, ← hk.2] at e
              refine again (k + 1) [] ⟨hlt, ?_⟩ (by omega) ?_
              · rw [if_neg (by omega)]; exact e
              · (refine qis ?_ ?_ <;> (repeat' first | exact rfl | (refine qS ?_; constructor)))
          · (repeat' first | (refine Owe.same ?_; first | refine Owe.o ?_ | refine Owe.mk ?_ ?_) | (refine Fork.same ?_; (first | refine fkD ?_ ?_ | refine fkN ?_ ?_ | refine fkM ?_ ?_) <;> intro h) | refine MvQ.stay ?_)
            have : k = m.length := by omega
            subst this
            have e : q = (0, 0) := by rw [hk.2, List.drop_of_length_le (Nat.le_refl _)]; rfl
            subst e
            (refine rqK rfl ?_; (repeat' first | exact rfl | (refine qS ?_; constructor)))
end Go.Pw

set_option linter.unusedSimpArgs false
set_option linter.unusedVariables false
namespace Go.Pw
set_option maxRecDepth 2000
open Go Go.Proofs A1 A2 A3 A4
theorem C148 {n : Int} : PFD Tryz.prog 148 [vi .i64 n] (vbl false) := by
  refine pi1 fn148 ?_
  (repeat' first | (refine Owe.same ?_; first | refine Owe.o ?_ | refine Owe.mk ?_ ?_) | (refine Fork.same ?_; (first | refine fkD ?_ ?_ | refine fkN ?_ ?_ | refine fkM ?_ ?_) <;> intro h) | refine MvQ.stay ?_)
  (refine rqK rfl ?_; (repeat' first | exact rfl | (refine qS ?_; constructor)))
  simp
/-- Where a number is, or would be. -/
def bsN (x : Int) (l : List Int) : Nat := (l.takeWhile fun y => decide (y < x)).length
/-- Ascending numbers. -/
abbrev srt (l : List Int) : Prop := ∀ i j, i < j → j < l.length → l.getD i 0 < l.getD j 0
theorem bsN_eq {x : Int} : ∀ {l : List Int} {i : Nat}, i ≤ l.length → (∀ t, t < i → l.getD t 0 < x) → (i < l.length → x ≤ l.getD i 0) → bsN x l = i
  | [], i, h, _, _ => by simp at h; subst h; rfl
  | y :: l, 0, _, _, h => by
    have := h (by simp)
    have : ¬ y < x := by simp at this; omega
    simp [bsN, List.takeWhile_cons, this]
  | y :: l, i + 1, h, h1, h2 => by
    have h3 := h1 0 (by omega)
    have h3 : y < x := by simpa using h3
    have ih := bsN_eq (x := x) (l := l) (i := i) (by simpa using h) (fun t ht => by have := h1 (t + 1) (by omega); simpa using this) (fun hi => by have := h2 (by simpa using hi); simpa using this)
    rw [bsN] at ih
    simp [bsN, List.takeWhile_cons, h3, ih]
theorem half_eq {i j : Nat} (h : i + j < 4611686018427387904) : (IntKind.u64.wrap ((i : Int) + j)).fdiv (2 ^ min (Int.toNat 1) IntKind.u64.bits) = (((i + j) / 2 : Nat) : Int) := by
  have e : (2 : Int) ^ min (Int.toNat 1) IntKind.u64.bits = 2 := by decide
  rw [u64_wrap, e, Int.fdiv_eq_ediv_of_nonneg _ (by decide)]
  omega
theorem C117 {l : List Int} {x : Int} : (l.length ≤ 1000000 ∧ srt l) → PFD Tryz.prog 117 [.c (ints l), vi .i64 x] (.tup [vi .i64 (bsN x l), vbl (decide (bsN x l < l.length ∧ l.getD (bsN x l) 0 = x))]) := fun ⟨hl, hs⟩ => by
  obtain ⟨b, hb⟩ : ∃ b, b = bsN x l := ⟨_, rfl⟩
  rw [← hb]
  refine pi2 fn117 ?_
  (repeat' first | (refine Owe.same ?_; first | refine Owe.o ?_ | refine Owe.mk ?_ ?_) | (refine Fork.same ?_; (first | refine fkD ?_ ?_ | refine fkN ?_ ?_ | refine fkM ?_ ?_) <;> intro h) | refine MvQ.stay ?_)
  refine Sat.lp0 (fun p : Nat × Nat => [(7, vi .i64 p.1), (8, vi .i64 p.2), (6, vi .i64 l.length), (0, .c (ints l)), (1, vi .i64 x)]) (fun p => (p.1 ≤ p.2 ∧ p.2 ≤ l.length) ∧ (∀ t, t < p.1 → l.getD t 0 < x) ∧ ∀ t, p.2 ≤ t → t < l.length → x ≤ l.getD t 0) (fun p => p.2 - p.1) (0, l.length) ⟨⟨Nat.zero_le _, Nat.le_refl _⟩, fun t h => absurd h (by omega), fun t h1 h2 => absurd h1 (by omega)⟩ (by ((first | refine qen ?_ | refine qvs ?_ | refine qeq ?_ | refine qst ?_ | refine qv ?_ | refine qc ?_ | refine qe ?_ | refine qcs ?_ | skip); (repeat' first | exact rfl | (refine qS ?_; constructor)))) ?_
  intro p hp
  obtain ⟨⟨h1, h2⟩, h3, h4⟩ := hp
  have hm := half_eq (i := p.1) (j := p.2) (by omega)
  refine Fork.dec (fun hlt => ?_) (fun hlt => ?_)
  · have hlt : p.1 < p.2 := by omega
    (repeat' first | (refine Owe.same ?_; first | refine Owe.o ?_ | refine Owe.mk ?_ ?_) | (refine Fork.same ?_; (first | refine fkD ?_ ?_ | refine fkN ?_ ?_ | refine fkM ?_ ?_) <;> intro h) | ((first | refine OpsL.same ?_ | refine OpsDL.same ?_); first | refine pK C147 rfl rfl ?_) | refine MvQ.stay ?_)
    · rw [hm] at h ⊢
      have h : l.getD ((p.1 + p.2) / 2) 0 < x := h
      refine again0 ((p.1 + p.2) / 2 + 1, p.2) ⟨by omega, fun t ht => ?_, h4⟩ (by omega) (by ((first | refine qen ?_ | refine qvs ?_ | refine qeq ?_ | refine qst ?_ | refine qv ?_ | refine qc ?_ | refine qe ?_ | refine qcs ?_ | skip); (repeat' first | exact rfl | (refine qS ?_; constructor))))
      rcases Nat.lt_or_eq_of_le (show t ≤ (p.1 + p.2) / 2 by omega) with h5 | h5
      · exact Int.lt_trans (hs t _ h5 (by omega)) h
      · rw [h5]; exact h
    · rw [hm] at h ⊢
      have h : ¬ l.getD ((p.1 + p.2) / 2) 0 < x := h
      (repeat' first | (refine Owe.same ?_; first | refine Owe.o ?_ | refine Owe.mk ?_ ?_) | (refine Fork.same ?_; (first | refine fkD ?_ ?_ | refine fkN ?_ ?_ | refine fkM ?_ ?_) <;> intro h) | refine MvQ.stay ?_)
      refine again0 (p.1, (p.1 + p.2) / 2) ⟨by omega, h3, fun t h5 h6 => ?_⟩ (by simp only; omega) (by ((first | refine qen ?_ | refine qvs ?_ | refine qeq ?_ | refine qst ?_ | refine qv ?_ | refine qc ?_ | refine qe ?_ | refine qcs ?_ | skip); (repeat' first | exact rfl | (refine qS ?_; constructor))))
      rcases Nat.lt_or_eq_of_le h5 with h7 | h7
      · have := hs _ t h7 h6; simp only at this; omega
      · rw [← h7]; simp only; omega
  · have e : p.1 = p.2 := by omega
    have hbe : b = p.1 := hb.trans (bsN_eq (by omega) h3 fun h => h4 _ (by omega) h)
    rw [hbe]
    (repeat' first | (refine Owe.same ?_; first | refine Owe.o ?_ | refine Owe.mk ?_ ?_) | (refine Fork.same ?_; (first | refine fkD ?_ ?_ | refine fkN ?_ ?_ | refine fkM ?_ ?_) <;> intro h) | ((first | refine OpsL.same ?_ | refine OpsDL.same ?_); first | refine pK C148 rfl rfl ?_) | refine MvQ.stay ?_)
    · have h : l.getD p.1 0 = x := h
      rename_i h9
      have h9 : p.1 < l.length := by omega
      (refine rqK rfl ?_; (repeat' first | exact rfl | (refine qS ?_; constructor)))
      rw [decide_eq_true ⟨h9, h⟩]
    · exact absurd h (by decide)
    · rename_i h9 h8
      have h8 : ¬ l.getD p.1 0 = x := h8
      (refine rqK rfl ?_; (repeat' first | exact rfl | (refine qS ?_; constructor)))
      rw [decide_eq_false fun hh => h8 hh.2]
    · have h9 : ¬ p.1 < l.length := by omega
      (refine rqK rfl ?_; (repeat' first | exact rfl | (refine qS ?_; constructor)))
      rw [decide_eq_false fun hh => h9 hh.1]
end Go.Pw

set_option linter.unusedVariables false
set_option maxHeartbeats 2000000
set_option maxRecDepth 100000
namespace Go.Pw
open Go Go.Proofs
/-- moonpool/sonar.CoverOf -/
def lc37u : LCode :=
  (.seq (.region [⟨some 1, .box (.tmp 0), none⟩, ⟨some 2, .mv (.const (.slice none 0 0)), none⟩, ⟨some 3, .mv (.const (.int .i64 0)), none⟩, ⟨some 4, .mv (.const (.int .i64 0)),
    none⟩]) (.seq (.seq (.region [⟨some 12, .load true 4 (.tmp 1), none⟩, ⟨some 13, .call (.func 81) [(.tmp 12)], none⟩, ⟨some 11, .mv (.tmp 13), none⟩, ⟨some 14, .ext (.tmp 11) 0,
    none⟩, ⟨some 15, .ext (.tmp 11) 1, none⟩, ⟨some 5, .mv (.tmp 14), none⟩, ⟨some 6, .mv (.tmp 15), none⟩]) (.seq (.region [⟨some 16, .mv (.tmp 6), none⟩, ⟨some 17, .bin .neq (.tmp
    16) (.const (.int .i64 0)), none⟩]) (.cond (.tmp 17) (.seq (.region [⟨some 18, .mv (.tmp 6), none⟩, ⟨some 2, .mv (.const (.slice none 0 0)), none⟩, ⟨some 3, .mv (.const (.int
    .i64 0)), none⟩, ⟨some 4, .mv (.tmp 18), none⟩]) .ret) .skip))) (.seq (.region [⟨some 19, .load true 4 (.tmp 1), none⟩, ⟨some 20, .call (.func 82) [(.tmp 19)], none⟩, ⟨some 7,
    .alloc [(.slice none 0 0)], none⟩, ⟨none, .store 1 (.tmp 7) (.tmp 20), none⟩]) (.seq (.stop (.region [⟨some 22, .fld 2 (.tmp 1), none⟩, ⟨some 23, .load false 1 (.tmp 22), none⟩,
    ⟨some 24, .len (.tmp 23), none⟩, ⟨some 25, .mkfn 83 [(.tmp 1), (.tmp 7)], none⟩, ⟨some 26, .call (.func 62) [(.tmp 24), (.tmp 25)], none⟩, ⟨some 21, .mv (.tmp 26), none⟩, ⟨some
    27, .ext (.tmp 21) 0, none⟩, ⟨some 28, .ext (.tmp 21) 1, none⟩, ⟨some 29, .ext (.tmp 21) 2, none⟩, ⟨some 8, .mv (.tmp 27), none⟩, ⟨some 9, .mv (.tmp 28), none⟩, ⟨some 10, .mv
    (.tmp 29), none⟩])) (.seq (.region [⟨some 30, .mv (.tmp 8), none⟩, ⟨some 31, .mv (.tmp 9), none⟩, ⟨some 32, .mv (.tmp 10), none⟩, ⟨some 33, .call (.func 56) [(.tmp 32), (.const
    (.int .i64 12))], none⟩, ⟨some 2, .mv (.tmp 30), none⟩, ⟨some 3, .mv (.tmp 31), none⟩, ⟨some 4, .mv (.tmp 33), none⟩]) .ret)))))
theorem low37u : lowF Tryz.prog [] Tryz.f37 = some (34, lc37u.strip, [.tmp 2, .tmp 3, .tmp 4]) := by kernel_rfl
theorem fn37u : FnOk Tryz.prog 37 34 lc37u [.tmp 2, .tmp 3, .tmp 4] := ⟨Tryz.call37, [], _, Tryz.func37, low37u⟩
end Go.Pw

set_option linter.unusedSimpArgs false
set_option linter.unusedVariables false
namespace Go.Pw
set_option maxRecDepth 2000
open Go Go.Proofs A1 A2 A3 A4
abbrev seD (x : Se) : List D := [dI x.1, dI x.2.1, .sl 6 x.2.2.1.length fun i => r6 (x.2.2.1.getD i vwd), .sl 1 x.2.2.2.length fun i => r1 (x.2.2.2.getD i 0)]
structure SeOk (x : Se) : Prop where
  w : 1 ≤ x.1 ∧ x.1 ≤ 12
  h : 1 ≤ x.2.1 ∧ x.2.1 ≤ 12
  n : x.2.2.1.length ≤ 10
  v : ∀ i, i < x.2.2.1.length → ryOk (x.2.2.1.getD i vwd).1 x.1 x.2.1 ∧ 0 ≤ (x.2.2.1.getD i vwd).2 ∧ (x.2.2.1.getD i vwd).2 ≤ 1000
  m : ∀ y ∈ x.2.2.2, 0 ≤ y ∧ y ≤ x.1 * x.2.1 - 1
  s : srt x.2.2.2
theorem wnE_ok {M last y : Int} : wnE M last y = 0 ↔ (0 ≤ y ∧ y ≤ M - 1) ∧ last < y := by
  rw [wnE, fst2, unl0 (by decide), unl0 (by decide)]
theorem vwE_ok {w h : Int} {v : Vw} : vwE w h v = 0 ↔ ryOk v.1 w h ∧ 0 ≤ v.2 ∧ v.2 ≤ 1000 := by
  rw [vwE, fst2, unl0 (by decide), unl0 (by decide)]
theorem eachW_ok {M : Int} : ∀ {m : List Int} {last : Int} {k : Nat}, (eachW M last k m).2 = 0 ↔ (∀ y ∈ m, last < y ∧ 0 ≤ y ∧ y ≤ M - 1) ∧ m.Pairwise (· < ·)
  | [], last, k => by simp [eachW]
  | y :: m, last, k => by
    rw [eachW]
    split
    · rename_i h
      rw [eachW_ok]
      have h1 := wnE_ok.1 h
      constructor
      · rintro ⟨h2, h3⟩
        refine ⟨fun z hz => ?_, List.pairwise_cons.2 ⟨fun z hz => (h2 z hz).1, h3⟩⟩
        rcases List.mem_cons.1 hz with rfl | hz
        · exact ⟨h1.2, h1.1⟩
        · have := h2 z hz; exact ⟨by omega, this.2⟩
      · rintro ⟨h2, h3⟩
        obtain ⟨h4, h5⟩ := List.pairwise_cons.1 h3
        exact ⟨fun z hz => ⟨h4 z hz, (h2 z (List.mem_cons_of_mem _ hz)).2⟩, h5⟩
    · rename_i h
      constructor
      · intro h1; exact absurd h1 h
      · rintro ⟨h2, _⟩
        have := h2 y (List.mem_cons_self ..)
        exact absurd (wnE_ok.2 ⟨this.2, this.1⟩) h
theorem srt_of {m : List Int} (h : m.Pairwise (· < ·)) : srt m := fun i j hij hj => by
  have := List.pairwise_iff_getElem.1 h i j (by omega) hj hij
  simpa [List.getD_eq_getElem?_getD, List.getElem?_eq_getElem, hj, show i < m.length by omega] using this
theorem of_srt {m : List Int} (h : srt m) : m.Pairwise (· < ·) := List.pairwise_iff_getElem.2 fun i j hi hj hij => by
  have := h i j hij hj
  simpa [List.getD_eq_getElem?_getD, List.getElem?_eq_getElem, hj, hi] using this
theorem seE_ok {x : Se} : (seE x).2 = 0 ↔ SeOk x := by
  rw [seE]
  constructor
  · intro h
    split at h
    · rename_i h0
      have hg := gridE_ok.1 h0
      split at h
      · rename_i h1
        have h2 := eachE_ok.1 h1
        obtain ⟨h3, h4⟩ := eachW_ok.1 h
        exact ⟨hg.1.1, hg.1.2, by omega, fun i hi => vwE_ok.1 (h2 _ (getD_mem _ hi)), fun y hy => (h3 y hy).2, srt_of h4⟩
      · rename_i h1; exact absurd h h1
    · rename_i h0; exact absurd h h0
  · intro h
    rw [if_pos (gridE_ok.2 ⟨⟨h.w, h.h⟩, by have := h.n; omega⟩), if_pos (eachE_ok.2 fun v hv => ?_)]
    · exact eachW_ok.2 ⟨fun y hy => ⟨by have := h.m y hy; omega, h.m y hy⟩, of_srt h.s⟩
    · obtain ⟨i, hi, rfl⟩ := List.getElem_of_mem hv
      have := h.v i hi
      rw [List.getD_eq_getElem?_getD, List.getElem?_eq_getElem hi] at this
      exact vwE_ok.2 this
theorem srt_len : ∀ {m : List Int} {lo hi : Int}, lo ≤ hi + 1 → m.Pairwise (· < ·) → (∀ y ∈ m, lo ≤ y ∧ y ≤ hi) → (m.length : Int) ≤ hi - lo + 1
  | [], lo, hi, hle, _, _ => by simp; omega
  | y :: m, lo, hi, hle, h, hb => by
    obtain ⟨h1, h2⟩ := List.pairwise_cons.1 h
    have h3 := hb y (List.mem_cons_self ..)
    have := srt_len (m := m) (lo := y + 1) (hi := hi) (by omega) h2 fun z hz => ⟨by have := h1 z hz; omega, (hb z (List.mem_cons_of_mem _ hz)).2⟩
    simp only [List.length_cons]; omega
theorem SeOk.wg {x : Se} (h : SeOk x) : 1 ≤ x.1 * x.2.1 ∧ x.1 * x.2.1 ≤ 144 := by
  have h1 : (1 : Int) * 1 ≤ x.1 * x.2.1 := Int.mul_le_mul h.w.1 h.h.1 (by decide) (by have := h.w; omega)
  have h2 : x.1 * x.2.1 ≤ 12 * 12 := Int.mul_le_mul h.w.2 h.h.2 (by have := h.h; omega) (by decide)
  omega
theorem SeOk.len {x : Se} (h : SeOk x) : x.2.2.2.length ≤ 144 := by
  have := srt_len (lo := 0) (hi := x.1 * x.2.1 - 1) (by have := h.wg; omega) (of_srt h.s) h.m
  have := h.wg
  omega
/-- The number of a cell. -/
abbrev celN (w : Int) (c : Cel) : Int := c.2 * w + c.1
/-- Whether a number is wanted. -/
abbrev isW (m : List Int) (n : Int) : Prop := bsN n m < m.length ∧ m.getD (bsN n m) 0 = n
/-- The indexes of the wanted cells among so many that a ray crosses. -/
def snJ (w : Int) (m : List Int) (r : Ry) : Nat → List Int
  | 0 => []
  | j + 1 => if isW m (celN w ((crS r).getD j (0, 0))) then snJ w m r j ++ [(bsN (celN w ((crS r).getD j (0, 0))) m : Int)] else snJ w m r j
theorem snJ_len (w : Int) (m : List Int) (r : Ry) : ∀ j, (snJ w m r j).length ≤ j
  | 0 => Nat.le_refl _
  | j + 1 => by
    have := snJ_len w m r j
    rw [snJ]; split
    · simp; omega
    · omega
/-- What a view sees. -/
def snR (w : Int) (m : List Int) (r : Ry) : List Int := snJ w m r (crS r).length
abbrev rL (l : List Int) : List D := [.sl 1 l.length fun i => r1 (l.getD i 0)]
abbrev rLs (L : List (List Int)) : List D := [.sl 1 L.length fun i => rL (L.getD i [])]
abbrev lls (L : List (List Int)) : C := slv 1 rL [] L
/-- What so many views see. -/
abbrev snK (x : Se) (k : Nat) : List (List Int) := accL (fun i => snR x.1 x.2.2.2 (x.2.2.1.getD i vwd).1) k
abbrev snS (x : Se) : List (List Int) := snK x x.2.2.1.length
theorem C82 {x : Se} : SeOk x → PFD Tryz.prog 82 [sev x] (.c (lls (snS x))) := fun hO => by
  have hm := hO.len
  obtain ⟨w, g, l, m⟩ := x
  have hw := hO.w; have hh := hO.h; have hn := hO.n
  have hs : srt m := hO.s
  simp only at hw hh hn hm
  obtain ⟨S, hS⟩ : ∃ S, S = snS (w, g, l, m) := ⟨_, rfl⟩
  rw [← hS]
  refine pi1 fn82 ?_
  (repeat' first | (refine Owe.same ?_; first | refine Owe.o ?_ | refine Owe.mk ?_ ?_) | (refine Fork.same ?_; (first | refine fkD ?_ ?_ | refine fkN ?_ ?_ | refine fkM ?_ ?_) <;> intro h) | refine MvQ.stay ?_)
  refine Sat.nilS 3 60 1 (fun i => rL (([] : List (List Int)).getD i [])) rfl ?_
  refine Sat.lp (fun k : Nat => ⟨[(14, vi .i64 k), (13, vi .i64 l.length), (12, .c (vws l)), (1, .c (.rp (seD (w, g, l, m)))), (3, .c (.ms 0 (snK (w, g, l, m) k).length))], [(0, rowv 60 1 rL [] (snK (w, g, l, m) k))], 1⟩)
    (fun k => k ≤ l.length) (fun k => l.length - k) 0 [0] (Nat.zero_le _) ?_ ?_
  · (refine qis ?_ ?_ <;> (repeat' first | exact rfl | (refine qS ?_; constructor)))
  · intro k hk
    have hkl : (snK (w, g, l, m) k).length = k := accL_len _ k
    have hks := accL_succ (fun i => snR w m (l.getD i vwd).1) k
    refine Fork.dec (fun hlt => ?_) (fun hlt => ?_)
    · have hltk : k < l.length := by omega
      have hr := (hO.v k hltk).1
      simp only at hr
      have hr12 : ryOk (l.getD k vwd).1 12 12 := by simp only [ryOk, inG] at hr ⊢; omega
      have c44 := C116 hr12
      have hin : ∀ c ∈ crS (l.getD k vwd).1, inG c w g := fun c hc => crS_in hr hc
      have hcl : (crS (l.getD k vwd).1).length ≤ 12 * 12 := by
        have h1 := wn_le hr12
        have h2 := hn_le hr12
        exact Nat.le_trans crS_len (Nat.mul_le_mul (by omega) (by omega))
      (repeat' first | (refine Owe.same ?_; first | refine Owe.o ?_ | refine Owe.mk ?_ ?_) | (refine Fork.same ?_; (first | refine fkD ?_ ?_ | refine fkN ?_ ?_ | refine fkM ?_ ?_) <;> intro h) | ((first | refine OpsL.same ?_ | refine OpsDL.same ?_); first | refine pK c44 rfl rfl ?_) | refine MvQ.stay ?_)
      refine Sat.nilS 6 3 1 (fun i => r1 (([] : List Int).getD i 0)) rfl ?_
      refine Sat.lp (fun j : Nat => ⟨[(22, vi .i64 j), (21, vi .i64 (crS (l.getD k vwd).1).length), (20, .c (prs (crS (l.getD k vwd).1))), (1, .c (.rp (seD (w, g, l, m)))), (6, .c (.ms 1 (snJ w m (l.getD k vwd).1 j).length)),
          (14, vi .i64 k), (13, vi .i64 l.length), (12, .c (vws l)), (3, .c (.ms 0 (snK (w, g, l, m) k).length))], [(0, rowv 60 1 rL [] (snK (w, g, l, m) k)), (1, rowv 3 1 r1 0 (snJ w m (l.getD k vwd).1 j))], 2⟩)
        (fun j => j ≤ (crS (l.getD k vwd).1).length) (fun j => (crS (l.getD k vwd).1).length - j) 0 [0, 2] (Nat.zero_le _) ?_ ?_
      · (refine qis ?_ ?_ <;> (repeat' first | exact rfl | (refine qS ?_; constructor)))
      · intro j hj
        have hjl := snJ_len w m (l.getD k vwd).1 j
        refine Fork.dec (fun hlt => ?_) (fun hlt => ?_)
        · have hlt : j < (crS (l.getD k vwd).1).length := by omega
          have hc := hin _ (getD_mem (0, 0) hlt)
          simp only [inG] at hc
          have c106 := C117 (l := m) (x := celN w ((crS (l.getD k vwd).1).getD j (0, 0))) ⟨by omega, hs⟩
          (repeat' first | (refine Owe.same ?_; first | refine Owe.o ?_ | refine Owe.mk ?_ ?_) | (refine Fork.same ?_; (first | refine fkD ?_ ?_ | refine fkN ?_ ?_ | refine fkM ?_ ?_) <;> intro h) | ((first | refine OpsL.same ?_ | refine OpsDL.same ?_); first | refine pK C118 rfl rfl ?_ | refine pK c106 rfl rfl ?_) | refine MvQ.stay ?_)
          · have h : isW m (celN w ((crS (l.getD k vwd).1).getD j (0, 0))) := h
            have e : snJ w m (l.getD k vwd).1 (j + 1) = snJ w m (l.getD k vwd).1 j ++ [(bsN (celN w ((crS (l.getD k vwd).1).getD j (0, 0))) m : Int)] := by rw [snJ, if_pos h]
            refine again (j + 1) [0, 13] hlt (by omega) ?_
            (refine qis ?_ ?_ <;> (repeat' first | exact rfl | (refine qS ?_; constructor)))
            · rw [e]; simp
            · exact e
          · have h : ¬ isW m (celN w ((crS (l.getD k vwd).1).getD j (0, 0))) := h
            have e : snJ w m (l.getD k vwd).1 (j + 1) = snJ w m (l.getD k vwd).1 j := by rw [snJ, if_neg h]
            refine again (j + 1) [0, 1] hlt (by omega) ?_
            (refine qis ?_ ?_ <;> (repeat' first | exact rfl | (refine qS ?_; constructor)))
            · rw [e]
            · rw [e]
        · have : j = (crS (l.getD k vwd).1).length := by omega
          subst this
          (repeat' first | (refine Owe.same ?_; first | refine Owe.o ?_ | refine Owe.mk ?_ ?_) | (refine Fork.same ?_; (first | refine fkD ?_ ?_ | refine fkN ?_ ?_ | refine fkM ?_ ?_) <;> intro h))
          refine MvQ.frz 6 _ rfl rfl (Nat.le_refl _) ?_
          (repeat' first | (refine Owe.same ?_; first | refine Owe.o ?_ | refine Owe.mk ?_ ?_) | (refine Fork.same ?_; (first | refine fkD ?_ ?_ | refine fkN ?_ ?_ | refine fkM ?_ ?_) <;> intro h) | refine MvQ.stay ?_)
          refine again (k + 1) [2] hltk (by omega) ?_
          (refine qis ?_ ?_ <;> (repeat' first | exact rfl | (refine qS ?_; constructor)))
          · show (snK (w, g, l, m) k).length + 1 = _
            rw [hkl]; exact (accL_len _ _).symm
          · exact ⟨_, rfl, hks⟩
    · (repeat' first | (refine Owe.same ?_; first | refine Owe.o ?_ | refine Owe.mk ?_ ?_) | (refine Fork.same ?_; (first | refine fkD ?_ ?_ | refine fkN ?_ ?_ | refine fkM ?_ ?_) <;> intro h) | refine MvQ.stay ?_)
      have : k = l.length := by omega
      subst this
      subst hS
      refine rqF 0 _ rfl rfl rfl ?_; (repeat' first | exact rfl | (refine qS ?_; constructor))
/-- The costs of so many views of a set. -/
def cvC (l : List Vw) (t : List Int) : Nat → Int
  | 0 => 0
  | k + 1 => cvC l t k + (l.getD (t.getD k 0).toNat vwd).2
/-- A map with more keys. -/
def putL (es : List (Int × Int)) : List Int → List (Int × Int)
  | [] => es
  | y :: l => putL (mput es y 0) l
def cvM (L : List (List Int)) (t : List Int) : Nat → List (Int × Int)
  | 0 => []
  | k + 1 => putL (cvM L t k) (L.getD (t.getD k 0).toNat [])
/-- The cost of a set of views, and whether they see all that is wanted. -/
def cvF (x : Se) (L : List (List Int)) (t : List Int) : Int × Bool := (cvC x.2.2.1 t t.length, decide ((cvM L t t.length).length = x.2.2.2.length))
theorem putL_take {es : List (Int × Int)} : ∀ {l : List Int} {j : Nat}, j < l.length → putL es (l.take (j + 1)) = mput (putL es (l.take j)) (l.getD j 0) 0
  | [], j, h => by simp at h
  | y :: l, 0, h => by simp [putL]
  | y :: l, j + 1, h => by
    simp only [List.take_succ_cons, putL, List.getD_cons_succ]
    exact putL_take (by simpa using h)
theorem cvC_bd {l : List Vw} {t : List Int} (h : ∀ i, 0 ≤ (l.getD i vwd).2 ∧ (l.getD i vwd).2 ≤ 1000) : ∀ k, 0 ≤ cvC l t k ∧ cvC l t k ≤ 1000 * k
  | 0 => by simp [cvC]
  | k + 1 => by
    have := cvC_bd (t := t) h k
    have := h (t.getD k 0).toNat
    simp only [cvC]; omega
theorem C83 {x : Se} {L : List (List Int)} {t : List Int} (hO : SeOk x) (hL : L.length = x.2.2.1.length ∧ ∀ i, (L.getD i []).length ≤ 1000) (ht : t.length ≤ 1000000) (hx : ∀ y ∈ t, 0 ≤ y ∧ y < x.2.2.1.length) : PFD Tryz.prog 83 [.c (ints t), .c (.rp (seD x)), .c (.rp (rLs L))] (.tup [vi .i64 (cvF x L t).1, vbl (cvF x L t).2]) := by
  obtain ⟨w, g, l, m⟩ := x
  have hn := hO.n
  have hm := hO.len
  simp only at hn hm hL hx
  have hlb : ∀ i, 0 ≤ (l.getD i vwd).2 ∧ (l.getD i vwd).2 ≤ 1000 := fun i => by
    rcases Nat.lt_or_ge i l.length with h | h
    · exact (hO.v i h).2
    · rw [List.getD_eq_getElem?_getD, List.getElem?_eq_none h]; decide
  rw [show cvF (w, g, l, m) L t = (cvC l t t.length, decide ((cvM L t t.length).length = m.length)) from rfl]
  refine pi2 fn83 ?_
  (repeat' first | (refine Owe.same ?_; first | refine Owe.o ?_ | refine Owe.mk ?_ ?_) | (refine Fork.same ?_; (first | refine fkD ?_ ?_ | refine fkN ?_ ?_ | refine fkM ?_ ?_) <;> intro h) | refine MvQ.stay ?_)
  refine Sat.lp (fun k : Nat => ⟨[(15, vi .i64 k), (14, vi .i64 t.length), (13, .c (ints t)), (1, .c (.rp (seD (w, g, l, m)))), (2, .c (.rp (rLs L))), (6, vi .i64 (cvC l t k)), (7, .c (.mp 0))], [(0, .mp 0 (cvM L t k))], 1⟩)
    (fun k => k ≤ t.length) (fun k => t.length - k) 0 [0] (Nat.zero_le _) ?_ ?_
  · (refine qis ?_ ?_ <;> (repeat' first | exact rfl | (refine qS ?_; constructor)))
  · intro k hk
    have hcb := cvC_bd (t := t) hlb k
    refine Fork.dec (fun hlt => ?_) (fun hlt => ?_)
    · have hltk : k < t.length := by omega
      have ht := hx _ (getD_mem 0 hltk)
      have hLl := hL.2 (t.getD k 0).toNat
      have hv := hlb (t.getD k 0).toNat
      have e : cvC l t (k + 1) = cvC l t k + (l.getD (t.getD k 0).toNat vwd).2 := rfl
      (repeat' first | (refine Owe.same ?_; first | refine Owe.o ?_ | refine Owe.mk ?_ ?_) | (refine Fork.same ?_; (first | refine fkD ?_ ?_ | refine fkN ?_ ?_ | refine fkM ?_ ?_) <;> intro h) | refine MvQ.stay ?_)
      refine Sat.lp (fun j : Nat => ⟨[(32, vi .i64 j), (31, vi .i64 (L.getD (t.getD k 0).toNat []).length), (30, .c (ints (L.getD (t.getD k 0).toNat []))), (15, vi .i64 k), (14, vi .i64 t.length), (13, .c (ints t)), (1, .c (.rp (seD (w, g, l, m)))), (2, .c (.rp (rLs L))), (6, vi .i64 (cvC l t (k + 1))), (7, .c (.mp 0))], [(0, .mp 0 (putL (cvM L t k) ((L.getD (t.getD k 0).toNat []).take j)))], 1⟩)
        (fun j => j ≤ (L.getD (t.getD k 0).toNat []).length) (fun j => (L.getD (t.getD k 0).toNat []).length - j) 0 [0] (Nat.zero_le _) ?_ ?_
      · (refine qis ?_ ?_ <;> (repeat' first | exact rfl | (refine qS ?_; constructor)))
      · intro j hj
        refine Fork.dec (fun hlt => ?_) (fun hlt => ?_)
        · have hltj : j < (L.getD (t.getD k 0).toNat []).length := by omega
          have e2 := putL_take (es := cvM L t k) hltj
          (repeat' first | (refine Owe.same ?_; first | refine Owe.o ?_ | refine Owe.mk ?_ ?_) | (refine Fork.same ?_; (first | refine fkD ?_ ?_ | refine fkN ?_ ?_ | refine fkM ?_ ?_) <;> intro h) | refine MvQ.stay ?_)
          refine again (j + 1) [0] hltj (by omega) ?_
          rw [e2]
          (refine qis ?_ ?_ <;> (repeat' first | exact rfl | (refine qS ?_; constructor)))
        · have : j = (L.getD (t.getD k 0).toNat []).length := by omega
          (repeat' first | (refine Owe.same ?_; first | refine Owe.o ?_ | refine Owe.mk ?_ ?_) | (refine Fork.same ?_; (first | refine fkD ?_ ?_ | refine fkN ?_ ?_ | refine fkM ?_ ?_) <;> intro h) | refine MvQ.stay ?_)
          refine again (k + 1) [0] hltk (by omega) ?_
          have e3 : cvM L t (k + 1) = putL (cvM L t k) ((L.getD (t.getD k 0).toNat []).take j) := by rw [cvM, this, List.take_length]
          rw [e3]
          (refine qis ?_ ?_ <;> (repeat' first | exact rfl | (refine qS ?_; constructor)))
    · have : k = t.length := by omega
      subst this
      (repeat' first | (refine Owe.same ?_; first | refine Owe.o ?_ | refine Owe.mk ?_ ?_) | (refine Fork.same ?_; (first | refine fkD ?_ ?_ | refine fkN ?_ ?_ | refine fkM ?_ ?_) <;> intro h) | refine MvQ.stay ?_)
      (refine rqK rfl ?_; (repeat' first | exact rfl | (refine qS ?_; constructor)))
      exact decide_eq_decide.2 Int.ofNat_inj
theorem accL_get {α : Type} (f : Nat → α) {d : α} {n i : Nat} (h : i < n) : (accL f n).getD i d = f i := by
  simp [accL, List.getD_eq_getElem?_getD, h]
theorem snR_len {x : Se} (h : SeOk x) : ∀ i, ((snS x).getD i []).length ≤ 1000 := fun i => by
  rcases Nat.lt_or_ge i x.2.2.1.length with hi | hi
  · have hr := (h.v i hi).1
    have hw := h.w; have hh := h.h
    have hr12 : ryOk (x.2.2.1.getD i vwd).1 12 12 := by simp only [ryOk, inG] at hr ⊢; omega
    have h1 := wn_le hr12
    have h2 := hn_le hr12
    have h3 : (crS (x.2.2.1.getD i vwd).1).length ≤ 12 * 12 := Nat.le_trans crS_len (Nat.mul_le_mul (by omega) (by omega))
    have h4 := snJ_len x.1 x.2.2.2 (x.2.2.1.getD i vwd).1 (crS (x.2.2.1.getD i vwd).1).length
    rw [snS, snK, accL_get _ hi, snR]
    omega
  · rw [List.getD_eq_getElem?_getD, List.getElem?_eq_none (by rw [accL_len]; exact hi)]; decide
/-- The best cover. -/
abbrev cvB (x : Se) : BSt := bestK (cvF x (snS x)) x.2.2.1.length (2 ^ x.2.2.1.length)
theorem C37 {x : Se} : (x.2.2.1.length ≤ 1000000 ∧ x.2.2.2.length ≤ 1000000) → PFD Tryz.prog 37 [sev x] (.tup [.c (ints (if (seE x).2 = 0 then (cvB x).l else [])), vi .i64 (if (seE x).2 = 0 then (cvB x).p else 0), vi .i64 (if (seE x).2 = 0 then unb (cvB x).ok 12 else (seE x).2)]) := fun hl => by
  by_cases h0 : (seE x).2 = 0
  · have hO := seE_ok.1 h0
    have hn := hO.n
    have c76 := C81 hl
    have c77 := C82 hO
    have c68 := C62 (g := 83) (rows := [seD x, rLs (snS x)]) (c := cvF x (snS x)) (n := x.2.2.1.length) (fun t ht hx => C83 hO ⟨accL_len _ _, snR_len hO⟩ ht hx) (by omega)
    rw [if_pos h0, if_pos h0, if_pos h0]
    rw [h0] at c76
    have hlen := bestK_len (cvF x (snS x)) x.2.2.1.length (2 ^ x.2.2.1.length)
    rw [show bestK (cvF x (snS x)) x.2.2.1.length (2 ^ x.2.2.1.length) = cvB x from rfl] at c68 hlen
    generalize cvB x = B at *
    generalize snS x = L at *
    refine pi3 fn37u ?_
    (repeat' first | (refine Owe.same ?_; first | refine Owe.o ?_ | refine Owe.mk ?_ ?_) | (refine Fork.same ?_; (first | refine fkD ?_ ?_ | refine fkN ?_ ?_ | refine fkM ?_ ?_) <;> intro h) | ((first | refine OpsL.same ?_ | refine OpsDL.same ?_); first | refine pK c76 rfl rfl ?_ | refine pK c77 rfl rfl ?_ | refine pK C56 rfl rfl ?_) | refine MvQ.stay ?_)
    · exact absurd rfl h
    refine SatL.frB 1 [7] rfl rfl ?_
    refine SatL.frB 0 [1] rfl rfl ?_
    refine SatL.go ?_
    (repeat' first | (refine Owe.same ?_; first | refine Owe.o ?_ | refine Owe.mk ?_ ?_) | (refine Fork.same ?_; (first | refine fkD ?_ ?_ | refine fkN ?_ ?_ | refine fkM ?_ ?_) <;> intro h) | ((first | refine OpsL.same ?_ | refine OpsDL.same ?_); first | refine pK c68 rfl rfl ?_ | refine pK C56 rfl rfl ?_) | refine MvQ.stay ?_)
    (refine rqK rfl ?_; (repeat' first | exact rfl | (refine qS ?_; constructor)))
  · rw [if_neg h0, if_neg h0, if_neg h0]
    refine pi3 fn37u ?_
    (repeat' first | (refine Owe.same ?_; first | refine Owe.o ?_ | refine Owe.mk ?_ ?_) | (refine Fork.same ?_; (first | refine fkD ?_ ?_ | refine fkN ?_ ?_ | refine fkM ?_ ?_) <;> intro h) | ((first | refine OpsL.same ?_ | refine OpsDL.same ?_); first | refine pK (C81 hl) rfl rfl ?_) | refine MvQ.stay ?_)
    · (refine rqK rfl ?_; (repeat' first | exact rfl | (refine qS ?_; constructor)))
    · exact absurd h h0
end Go.Pw

set_option linter.unusedVariables false
namespace Go.Pw
open Go Go.RowKit
theorem row5 {ds : List D} (h : OkDs [.int .i64, .int .i64, .int .i64, .int .i64, .bool] ds) : ∃ r : Ry, ds = r5 r ∧ (i64 r.1.1 ∧ i64 r.1.2) ∧ i64 r.2.1.1 ∧ i64 r.2.1.2 := by
  obtain ⟨d1, e1, rfl, a1, k1⟩ := okDs_cons h
  obtain ⟨d2, e2, rfl, a2, k2⟩ := okDs_cons k1
  obtain ⟨d3, e3, rfl, a3, k3⟩ := okDs_cons k2
  obtain ⟨d4, e4, rfl, a4, k4⟩ := okDs_cons k3
  obtain ⟨d5, e5, rfl, a5, k5⟩ := okDs_cons k4
  obtain ⟨n1, rfl, b1⟩ := okD_int a1
  obtain ⟨n2, rfl, b2⟩ := okD_int a2
  obtain ⟨n3, rfl, b3⟩ := okD_int a3
  obtain ⟨n4, rfl, b4⟩ := okD_int a4
  obtain ⟨x, rfl⟩ := okD_bool a5
  rw [okDs_nil k5]
  exact ⟨((n1, n2), (n3, n4), x), rfl, ⟨b1, b2⟩, b3, b4⟩
theorem arg_scene {v : V} (h : Arg true [.int .i64, .int .i64, .sl [.int .i64, .int .i64, .int .i64, .int .i64, .bool]] v) : ∃ s : Sc, RI v (scv s) ∧ (i64 s.1 ∧ i64 s.2.1) ∧ s.2.2.length ≤ maxLen ∧ ∀ r ∈ s.2.2, (i64 r.1.1 ∧ i64 r.1.2) ∧ i64 r.2.1.1 ∧ i64 r.2.1.2 := by
  obtain ⟨ds, rfl, h1⟩ := arg_agg h
  obtain ⟨d, es, rfl, h2, h3⟩ := okDs_cons h1
  obtain ⟨e, fs, rfl, h4, h5⟩ := okDs_cons h3
  obtain ⟨g, gs, rfl, h6, h7⟩ := okDs_cons h5
  obtain ⟨n, rfl, hn⟩ := okD_int h2
  obtain ⟨m, rfl, hm⟩ := okD_int h4
  obtain ⟨l, h8, h9⟩ := okD_list ryd (fun ds => row5) h6
  rw [okDs_nil h7]
  refine ⟨(n, m, l), VEq.ri (.agg _ _ rfl fun i x y hx hy => ?_), ⟨hn, hm⟩, h9⟩
  match i with
  | 0 => simp at hx hy; subst hx; subst hy; exact .refl _
  | 1 => simp at hx hy; subst hx; subst hy; exact .refl _
  | 2 => simp at hx hy; subst hx; subst hy; exact h8
  | i + 3 => simp at hx
theorem arg_trs {v : V} (h : Arg false [.sl [.int .i64, .int .i64, .int .i64]] v) : ∃ l : List (Int × Int × Int), RI v (.c (trs l)) ∧ l.length ≤ maxLen ∧ ∀ a ∈ l, i64 a.1 ∧ i64 a.2.1 ∧ i64 a.2.2 := by
  obtain ⟨d, rfl, h1⟩ := arg_c h
  obtain ⟨l, h2, h3⟩ := okD_list ((0, 0, 0) : Int × Int × Int) (fun ds => row3) h1
  exact ⟨l, VEq.ri (.c _ _ h2), h3⟩
theorem arg_str {v : V} (h : Arg false [.str] v) : ∃ l : By, v = sv l := by
  obtain ⟨d, rfl, h1⟩ := arg_c h
  rw [OkD] at h1
  obtain ⟨s, rfl, _⟩ := h1
  exact ⟨s.data.toList, by rw [sv, svD, bs_eta]⟩
theorem i64_P {n : Int} (h : i64 n) : i64P n := by
  have := w64_i h
  unfold i64P
  omega
end Go.Pw

set_option linter.unusedSimpArgs false
set_option linter.unusedVariables false
namespace Go.Pw
set_option maxRecDepth 2000
open Go Go.Proofs A1 A2 A3 A4
abbrev exD : List Dv := [(1, 2, 3), (2, 1, 3), (4, 2, 2)]
abbrev exY : List Dv := [(10, 4, 5), (20, 5, 6)]
abbrev exT : List Pr := [(1, 0), (-1, 0)]
abbrev exU : List Pr := [(1, 0), (3, 0), (-3, 0), (0, 0)]
abbrev exS : Sc := (4, 2, [((0, 0), (3, 1), true), ((0, 1), (3, 1), false)])
abbrev exQ : Se := (4, 2, [(((0, 0), (3, 0), false), 5), (((0, 0), (3, 1), false), 4), (((0, 1), (3, 1), false), 3)], [3, 6])
theorem C31 : PFD Tryz.prog 31 [] (.c (trs exD)) := by
  refine pi1 fn31 ?_
  (repeat' first | (refine Owe.same ?_; first | refine Owe.o ?_ | refine Owe.mk ?_ ?_) | (refine Fork.same ?_; (first | refine fkD ?_ ?_ | refine fkN ?_ ?_ | refine fkM ?_ ?_) <;> intro h) | refine MvQ.stay ?_)
  (refine rqK rfl ?_; (repeat' first | exact rfl | (refine qS ?_; constructor)))
theorem C34 : PFD Tryz.prog 34 [] (.c (trs exY)) := by
  refine pi1 fn34 ?_
  (repeat' first | (refine Owe.same ?_; first | refine Owe.o ?_ | refine Owe.mk ?_ ?_) | (refine Fork.same ?_; (first | refine fkD ?_ ?_ | refine fkN ?_ ?_ | refine fkM ?_ ?_) <;> intro h) | refine MvQ.stay ?_)
  (refine rqK rfl ?_; (repeat' first | exact rfl | (refine qS ?_; constructor)))
theorem C80 {a b c d : Int} {h : Bool} : PFD Tryz.prog 80 [vi .i64 a, vi .i64 b, vi .i64 c, vi .i64 d, vbl h] (ryv ((a, b), (c, d), h)) := by
  refine pi1 fn80 ?_
  (repeat' first | (refine Owe.same ?_; first | refine Owe.o ?_ | refine Owe.mk ?_ ?_) | (refine Fork.same ?_; (first | refine fkD ?_ ?_ | refine fkN ?_ ?_ | refine fkM ?_ ?_) <;> intro h) | refine MvQ.stay ?_)
  (refine rqK rfl ?_; (repeat' first | exact rfl | (refine qS ?_; constructor)))
theorem C36 : PFD Tryz.prog 36 [] (scv exS) := by
  refine pi1 fn36 ?_
  (repeat' first | (refine Owe.same ?_; first | refine Owe.o ?_ | refine Owe.mk ?_ ?_) | (refine Fork.same ?_; (first | refine fkD ?_ ?_ | refine fkN ?_ ?_ | refine fkM ?_ ?_) <;> intro h) | ((first | refine OpsL.same ?_ | refine OpsDL.same ?_); first | refine pK C80 rfl rfl ?_) | refine MvQ.stay ?_)
  (refine rqK rfl ?_; (repeat' first | exact rfl | (refine qS ?_; constructor)))
theorem C38 : PFD Tryz.prog 38 [] (sev exQ) := by
  refine pi1 fn38 ?_
  (repeat' first | (refine Owe.same ?_; first | refine Owe.o ?_ | refine Owe.mk ?_ ?_) | (refine Fork.same ?_; (first | refine fkD ?_ ?_ | refine fkN ?_ ?_ | refine fkM ?_ ?_) <;> intro h) | ((first | refine OpsL.same ?_ | refine OpsDL.same ?_); first | refine pK C80 rfl rfl ?_) | refine MvQ.stay ?_)
  (refine rqK rfl ?_; (repeat' first | exact rfl | (refine qS ?_; constructor)))
theorem C39 {a b : Tn} : (a.2.length ≤ 1000000) → PFD Tryz.prog 39 [tv a, tv b] (vbl (decide (a = b))) := fun h => by
  obtain ⟨a1, a2⟩ := a
  obtain ⟨b1, b2⟩ := b
  refine pi1 fn39 ?_
  (repeat' first | (refine Owe.same ?_; first | refine Owe.o ?_ | refine Owe.mk ?_ ?_) | (refine Fork.same ?_; (first | refine fkD ?_ ?_ | refine fkN ?_ ?_ | refine fkM ?_ ?_) <;> intro h) | ((first | refine OpsL.same ?_ | refine OpsDL.same ?_); first | refine pK C40 rfl rfl ?_) | refine MvQ.stay ?_)
  · have h : a1 = b1 := h
    subst h
    (refine rqK rfl ?_; (repeat' first | exact rfl | (refine qS ?_; constructor)))
    simp
  · have h : ¬ a1 = b1 := h
    (refine rqK rfl ?_; (repeat' first | exact rfl | (refine qS ?_; constructor)))
    simp [h]
theorem C5 : PFD Tryz.prog 5 [] (vbl true) := by
  have c1 := C30 (l := exD) (by decide)
  have c2 := C32 (T := exT) (S := exU) (lim := 9) (by decide)
  have c3 := C33 (l := exY) (T := 4) (by decide)
  have c4 := C35 (s := exS) (by decide)
  have c5 := C29 (s := exS) (by decide)
  have c6 := C37 (x := exQ) (by decide)
  rw [show shR exD = ((9, [0, 5, 0]), 0) by decide +kernel] at c1
  rw [show ecE exT exU 9 = 0 by decide +kernel, if_pos rfl, show ecL exT exU 9 = [1] by decide +kernel] at c2
  rw [show dpS exY 4 = ((17, 22), 0) by decide +kernel] at c3
  rw [show (scE exS).2 = 0 by decide +kernel, if_pos rfl, show stS exS [] = [1, 1, 0, 0, 1, 1, 1, 3] by decide +kernel] at c4
  rw [show (scE exS).2 = 0 by decide +kernel, if_pos rfl, show (bestK (odC exS) exS.2.2.length (2 ^ exS.2.2.length)).l = [0] by decide +kernel] at c5
  rw [show (seE exQ).2 = 0 by decide +kernel, if_pos rfl, if_pos rfl, if_pos rfl, show (cvB exQ).l = [0, 2] by decide +kernel, show (cvB exQ).p = 8 by decide +kernel, show (cvB exQ).ok = true by decide +kernel] at c6
  have c7 := C39 (a := (9, [0, 5, 0])) (b := (9, [0, 5, 0])) (by decide)
  have c8 := C40 (l := [1]) (m := [1]) (by decide)
  have c9 := C40 (l := [1, 1, 0, 0, 1, 1, 1, 3]) (m := [1, 1, 0, 0, 1, 1, 1, 3]) (by decide)
  have c10 := C40 (l := [0]) (m := [0]) (by decide)
  have c11 := C40 (l := [0, 2]) (m := [0, 2]) (by decide)
  rw [decide_eq_true rfl] at c7 c8 c9 c10 c11
  refine pi1 fn5 ?_
  (repeat' first | (refine Owe.same ?_; first | refine Owe.o ?_ | refine Owe.mk ?_ ?_) | (refine Fork.same ?_; (first | refine fkY ?_ | refine fkF ?_ | ((first | refine fkD ?_ ?_ | refine fkN ?_ ?_ | refine fkM ?_ ?_) <;> intro h))) | ((first | refine OpsL.same ?_ | refine OpsDL.same ?_); first | refine pK C31 rfl rfl ?_ | refine pK C34 rfl rfl ?_ | refine pK C36 rfl rfl ?_ | refine pK C38 rfl rfl ?_ | refine pK c1 rfl rfl ?_ | refine pK c2 rfl rfl ?_ | refine pK c3 rfl rfl ?_ | refine pK c4 rfl rfl ?_ | refine pK c5 rfl rfl ?_ | refine pK c6 rfl rfl ?_ | refine pK c7 rfl rfl ?_) | refine MvQ.stay ?_)
  ((first | refine OpsL.same ?_ | refine OpsDL.same ?_); first | refine pK c8 rfl rfl ?_)
  (repeat' first | (refine Owe.same ?_; first | refine Owe.o ?_ | refine Owe.mk ?_ ?_) | (refine Fork.same ?_; (first | refine fkY ?_ | refine fkF ?_ | ((first | refine fkD ?_ ?_ | refine fkN ?_ ?_ | refine fkM ?_ ?_) <;> intro h))) | ((first | refine OpsL.same ?_ | refine OpsDL.same ?_); first | refine pK c7 rfl rfl ?_) | refine MvQ.stay ?_)
  ((first | refine OpsL.same ?_ | refine OpsDL.same ?_); first | refine pK c9 rfl rfl ?_)
  (repeat' first | (refine Owe.same ?_; first | refine Owe.o ?_ | refine Owe.mk ?_ ?_) | (refine Fork.same ?_; (first | refine fkY ?_ | refine fkF ?_ | ((first | refine fkD ?_ ?_ | refine fkN ?_ ?_ | refine fkM ?_ ?_) <;> intro h))) | ((first | refine OpsL.same ?_ | refine OpsDL.same ?_); first | refine pK c7 rfl rfl ?_) | refine MvQ.stay ?_)
  ((first | refine OpsL.same ?_ | refine OpsDL.same ?_); first | refine pK c10 rfl rfl ?_)
  (repeat' first | (refine Owe.same ?_; first | refine Owe.o ?_ | refine Owe.mk ?_ ?_) | (refine Fork.same ?_; (first | refine fkY ?_ | refine fkF ?_ | ((first | refine fkD ?_ ?_ | refine fkN ?_ ?_ | refine fkM ?_ ?_) <;> intro h))) | ((first | refine OpsL.same ?_ | refine OpsDL.same ?_); first | refine pK c7 rfl rfl ?_) | refine MvQ.stay ?_)
  ((first | refine OpsL.same ?_ | refine OpsDL.same ?_); first | refine pK c11 rfl rfl ?_)
  (repeat' first | (refine Owe.same ?_; first | refine Owe.o ?_ | refine Owe.mk ?_ ?_) | (refine Fork.same ?_; (first | refine fkY ?_ | refine fkF ?_ | ((first | refine fkD ?_ ?_ | refine fkN ?_ ?_ | refine fkM ?_ ?_) <;> intro h))) | ((first | refine OpsL.same ?_ | refine OpsDL.same ?_); first | refine pK c7 rfl rfl ?_) | refine MvQ.stay ?_)
  (refine rqK rfl ?_; (repeat' first | exact rfl | (refine qS ?_; constructor)))
end Go.Pw

set_option linter.unusedSimpArgs false
set_option linter.unusedVariables false
namespace Go.Pw
set_option maxRecDepth 2000
open Go Go.Proofs A1 A2 A3 A4
theorem C60 {c : Pr} {w g : Int} : ((-1000000 ≤ w ∧ w ≤ 1000000) ∧ -1000000 ≤ g ∧ g ≤ 1000000) → PFD Tryz.prog 60 [pr c, vi .i64 w, vi .i64 g] (vbl (decide (inG c w g))) := fun ⟨hw, hh⟩ => by
  refine pi1 fn60 ?_
  (repeat' first | (refine Owe.same ?_; first | refine Owe.o ?_ | refine Owe.mk ?_ ?_) | (refine Fork.same ?_; (first | refine fkD ?_ ?_ | refine fkN ?_ ?_ | refine fkM ?_ ?_) <;> intro h) | ((first | refine OpsL.same ?_ | refine OpsDL.same ?_); first | refine pK C23 rfl rfl ?_) | refine MvQ.stay ?_)
  · (refine rqK rfl ?_; (repeat' first | exact rfl | (refine qS ?_; constructor)))
    exact decide_eq_decide.2 ⟨fun hh => ⟨h, hh⟩, fun hh => hh.2⟩
  · (refine rqK rfl ?_; (repeat' first | exact rfl | (refine qS ?_; constructor)))
    rw [decide_eq_false]; exact fun hh => h hh.1
theorem C27 {r : Ry} {w g : Int} : ((-1000000 ≤ w ∧ w ≤ 1000000) ∧ -1000000 ≤ g ∧ g ≤ 1000000) → PFD Tryz.prog 27 [ryv r, vi .i64 w, vi .i64 g] (vi .i64 (unl (ryOk r w g) 6)) := fun ⟨hw, hh⟩ => by
  refine pi1 fn27 ?_
  (repeat' first | (refine Owe.same ?_; first | refine Owe.o ?_ | refine Owe.mk ?_ ?_) | (refine Fork.same ?_; (first | refine fkD ?_ ?_ | refine fkN ?_ ?_ | refine fkM ?_ ?_) <;> intro h) | ((first | refine OpsL.same ?_ | refine OpsDL.same ?_); first | refine pK C60 rfl rfl ?_) | refine MvQ.stay ?_)
  · (refine rqK rfl ?_; (repeat' first | exact rfl | (refine qS ?_; constructor)))
    rw [unl, decide_eq_false fun hh => h hh.1]; rfl
  · (refine rqK rfl ?_; (repeat' first | exact rfl | (refine qS ?_; constructor)))
    rw [unl, decide_eq_false fun hh => h hh.2]; rfl
  · rename_i h1
    (refine rqK rfl ?_; (repeat' first | exact rfl | (refine qS ?_; constructor)))
    rw [unl, decide_eq_true ⟨h1, h⟩]; rfl
end Go.Pw

set_option linter.unusedSimpArgs false
set_option linter.unusedVariables false
namespace Go.Pw
set_option maxRecDepth 2000
open Go Go.Proofs A1 A2 A3 A4
abbrev grdE (w g : Int) : Int := unl ((1 ≤ w ∧ w ≤ 12) ∧ 1 ≤ g ∧ g ≤ 12) 2
theorem C94 {w g : Int} : PFD Tryz.prog 94 [vi .i64 w, vi .i64 g] (vi .i64 (grdE w g)) := by
  refine pi1 fn94 ?_
  (repeat' first | (refine Owe.same ?_; first | refine Owe.o ?_ | refine Owe.mk ?_ ?_) | (refine Fork.same ?_; (first | refine fkD ?_ ?_ | refine fkN ?_ ?_ | refine fkM ?_ ?_) <;> intro h) | ((first | refine OpsL.same ?_ | refine OpsDL.same ?_); first | refine pK C23 rfl rfl ?_) | refine MvQ.stay ?_)
  · (refine rqK rfl ?_; (repeat' first | exact rfl | (refine qS ?_; constructor)))
    rw [grdE, unl, decide_eq_false fun hh => h hh.1]; rfl
  · (refine rqK rfl ?_; (repeat' first | exact rfl | (refine qS ?_; constructor)))
    rw [grdE, unl, decide_eq_false fun hh => h hh.2]; rfl
  · rename_i h1
    (refine rqK rfl ?_; (repeat' first | exact rfl | (refine qS ?_; constructor)))
    rw [grdE, unl, decide_eq_true ⟨h1, h⟩]; rfl
theorem eachE_e {α : Type} {f : α → Int} {d : α} {l : List α} {k : Nat} (h : ∀ i, i < k → f (l.getD i d) = 0) (hk : k < l.length) (hx : ¬ f (l.getD k d) = 0) : eachE f 0 l = ((k : Int), f (l.getD k d)) := by
  have : ∀ j, j ≤ k → eachE f 0 l = eachE f j (l.drop j) := fun j => by
    induction j with
    | zero => intro _; simp
    | succ j ih => intro hj; rw [ih (by omega), eachE_drop _ d l j (by omega), if_pos (h j (by omega))]
  rw [this k (Nat.le_refl _), eachE_drop _ d l k hk, if_neg hx]
theorem eachE_z {α : Type} {f : α → Int} {d : α} {l : List α} (h : ∀ i, i < l.length → f (l.getD i d) = 0) : eachE f 0 l = (0, 0) := by
  have h1 : (eachE f 0 l).2 = 0 := eachE_ok.2 fun x hx => by
    obtain ⟨i, hi, rfl⟩ := List.getElem_of_mem hx
    have := h i hi
    rwa [List.getD_eq_getElem?_getD, List.getElem?_eq_getElem hi] at this
  exact Prod.ext (eachE_fst h1) h1
theorem C54 {s : Sc} : PFD Tryz.prog 54 [scv s] (.tup [vi .i64 (scE s).1, vi .i64 (scE s).2]) := by
  obtain ⟨w, g, l⟩ := s
  have c87 := C94 (w := w) (g := g)
  by_cases h0 : (1 ≤ w ∧ w ≤ 12) ∧ 1 ≤ g ∧ g ≤ 12
  · rw [show grdE w g = 0 from (unl0 (by decide)).2 h0] at c87
    by_cases h1 : l.length ≤ 10
    · have hg : gridE w g l.length = 0 := gridE_ok.2 ⟨h0, by omega⟩
      have he : scE (w, g, l) = eachE (fun r => unl (ryOk r w g) 6) 0 l := by rw [scE, if_pos hg]
      obtain ⟨q, hq⟩ : ∃ q, q = scE (w, g, l) := ⟨_, rfl⟩
      rw [← hq]
      rw [← hq] at he
      have h1' : ((w, g, l) : Sc).2.2.length ≤ 10 := h1
      refine pi2 fn54 ?_
      (repeat' first | (refine Owe.same ?_; first | refine Owe.o ?_ | refine Owe.mk ?_ ?_) | (refine Fork.same ?_; (first | refine fkY ?_ | refine fkF ?_ | ((first | refine fkD ?_ ?_ | refine fkN ?_ ?_ | refine fkM ?_ ?_) <;> intro h))) | ((first | refine OpsL.same ?_ | refine OpsDL.same ?_); first | refine oK c87 rfl rfl rfl ?_) | refine MvQ.stay ?_)
      refine Sat.lp0 (fun k : Nat => [(5, vi .i64 k), (1, .c (.rp (scD (w, g, l))))]) (fun k => k ≤ l.length ∧ ∀ i, i < k → unl (ryOk (l.getD i ryd) w g) 6 = 0) (fun k => l.length - k) 0 ⟨Nat.zero_le _, fun i hi => by omega⟩ (by ((first | refine qen ?_ | refine qvs ?_ | refine qeq ?_ | refine qst ?_ | refine qv ?_ | refine qc ?_ | refine qe ?_ | refine qcs ?_ | skip); (repeat' first | exact rfl | (refine qS ?_; constructor)))) ?_
      intro k hk
      refine Fork.dec (fun hlt => ?_) (fun hlt => ?_)
      · have hlt : k < l.length := Int.ofNat_lt.1 hlt
        have c45 := C27 (r := l.getD k ryd) (w := w) (g := g) ⟨by omega, by omega⟩
        have e := eachE_e (f := fun r => unl (ryOk r w g) 6) (d := ryd) hk.2 hlt
        by_cases hr : unl (ryOk (l.getD k ryd) w g) 6 = 0
        · rw [hr] at c45
          (repeat' first | (refine Owe.same ?_; first | refine Owe.o ?_ | refine Owe.mk ?_ ?_) | (refine Fork.same ?_; (first | refine fkY ?_ | refine fkF ?_ | ((first | refine fkD ?_ ?_ | refine fkN ?_ ?_ | refine fkM ?_ ?_) <;> intro h))) | ((first | refine OpsL.same ?_ | refine OpsDL.same ?_); first | refine oK c45 rfl rfl rfl ?_) | refine MvQ.stay ?_)
          refine again0 (k + 1) ⟨hlt, fun i hi => ?_⟩ (by omega) (by ((first | refine qen ?_ | refine qvs ?_ | refine qeq ?_ | refine qst ?_ | refine qv ?_ | refine qc ?_ | refine qe ?_ | refine qcs ?_ | skip); (repeat' first | exact rfl | (refine qS ?_; constructor))))
          rcases Nat.lt_succ_iff_lt_or_eq.1 hi with h9 | rfl
          · exact hk.2 i h9
          · exact hr
        · have e := e hr
          rw [he, e]
          generalize unl (ryOk (l.getD k ryd) w g) 6 = z at *
          (repeat' first | (refine Owe.same ?_; first | refine Owe.o ?_ | refine Owe.mk ?_ ?_) | (refine Fork.same ?_; (first | refine fkY ?_ | refine fkF ?_ | ((first | refine fkD ?_ ?_ | refine fkN ?_ ?_ | refine fkM ?_ ?_) <;> intro h))) | ((first | refine OpsL.same ?_ | refine OpsDL.same ?_); first | refine oK c45 rfl rfl rfl ?_) | refine MvQ.stay ?_)
          (refine rqK rfl ?_; (repeat' first | exact rfl | (refine qS ?_; constructor)))
      · have hlt : ¬ ((k : Int) < (l.length : Int)) := hlt
        have : q = (0, 0) := he.trans (eachE_z (d := ryd) fun i hi => hk.2 i (by omega))
        subst this
        (repeat' first | (refine Owe.same ?_; first | refine Owe.o ?_ | refine Owe.mk ?_ ?_) | (refine Fork.same ?_; (first | refine fkY ?_ | refine fkF ?_ | ((first | refine fkD ?_ ?_ | refine fkN ?_ ?_ | refine fkM ?_ ?_) <;> intro h))) | ((first | refine OpsL.same ?_ | refine OpsDL.same ?_); first | refine oK c87 rfl rfl rfl ?_) | refine MvQ.stay ?_)
        (refine rqK rfl ?_; (repeat' first | exact rfl | (refine qS ?_; constructor)))
    · have e : scE (w, g, l) = (0, 8) := by
        have : gridE w g l.length = 8 := by
          rw [gridE, fstE, if_pos ((unl0 (by decide)).2 h0), fstE, unl, decide_eq_false (by omega)]; rfl
        rw [scE]; simp only [this]; rfl
      rw [e]
      have h1' : ¬ ((w, g, l) : Sc).2.2.length ≤ 10 := h1
      refine pi2 fn54 ?_
      (repeat' first | (refine Owe.same ?_; first | refine Owe.o ?_ | refine Owe.mk ?_ ?_) | (refine Fork.same ?_; (first | refine fkY ?_ | refine fkF ?_ | ((first | refine fkD ?_ ?_ | refine fkN ?_ ?_ | refine fkM ?_ ?_) <;> intro h))) | ((first | refine OpsL.same ?_ | refine OpsDL.same ?_); first | refine oK c87 rfl rfl rfl ?_) | refine MvQ.stay ?_)
      (refine rqK rfl ?_; (repeat' first | exact rfl | (refine qS ?_; constructor)))
  · have e2 : grdE w g = 2 := by rw [grdE, unl, decide_eq_false h0]; rfl
    have e : scE (w, g, l) = (0, 2) := by
      have : gridE w g l.length = 2 := by
        rw [gridE, show unl ((1 ≤ w ∧ w ≤ 12) ∧ 1 ≤ g ∧ g ≤ 12) 2 = 2 from e2]; rfl
      rw [scE]; simp only [this]; rfl
    rw [e2] at c87
    rw [e]
    refine pi2 fn54 ?_
    (repeat' first | (refine Owe.same ?_; first | refine Owe.o ?_ | refine Owe.mk ?_ ?_) | (refine Fork.same ?_; (first | refine fkY ?_ | refine fkF ?_ | ((first | refine fkD ?_ ?_ | refine fkN ?_ ?_ | refine fkM ?_ ?_) <;> intro h))) | ((first | refine OpsL.same ?_ | refine OpsDL.same ?_); first | refine oK c87 rfl rfl rfl ?_) | refine MvQ.stay ?_)
    (refine rqK rfl ?_; (repeat' first | exact rfl | (refine qS ?_; constructor)))
theorem C21 {s : Sc} : PFD Tryz.prog 21 [scv s] (vi .i64 (scE s).2) := by
  refine pi1 fn21 ?_
  (repeat' first | (refine Owe.same ?_; first | refine Owe.o ?_ | refine Owe.mk ?_ ?_) | (refine Fork.same ?_; (first | refine fkD ?_ ?_ | refine fkN ?_ ?_ | refine fkM ?_ ?_) <;> intro h) | ((first | refine OpsL.same ?_ | refine OpsDL.same ?_); first | refine pK C54 rfl rfl ?_) | refine MvQ.stay ?_)
  (refine rqK rfl ?_; (repeat' first | exact rfl | (refine qS ?_; constructor)))
theorem C11 {s : Sc} : s.2.2.length ≤ 1000000 → PFD Tryz.prog 11 [scv s] (scv s) := fun h => by
  refine pi1 fn11 ?_
  (repeat' first | (refine Owe.same ?_; first | refine Owe.o ?_ | refine Owe.mk ?_ ?_) | (refine Fork.same ?_; (first | refine fkD ?_ ?_ | refine fkN ?_ ?_ | refine fkM ?_ ?_) <;> intro h) | refine MvQ.stay ?_)
  (refine rqK rfl ?_; (repeat' first | exact rfl | (refine qS ?_; constructor)))
end Go.Pw

set_option linter.unusedSimpArgs false
set_option linter.unusedVariables false
namespace Go.Pw
set_option maxRecDepth 2000
open Go Go.Proofs A1 A2 A3 A4
end Go.Pw

set_option linter.unusedSimpArgs false
set_option linter.unusedVariables false
namespace Go.Pw
set_option maxRecDepth 2000
open Go Go.Proofs A1 A2 A3 A4
end Go.Pw

set_option linter.unusedSimpArgs false
set_option linter.unusedVariables false
namespace Go.Pw
set_option maxRecDepth 2000
open Go Go.Proofs A1 A2 A3 A4
theorem dvsE_e {l : List Dv} {k : Nat} (h0 : cntE l.length 5 = 0) (h : ∀ i, i < k → dvE (l.getD i (0, 0, 0)) = 0) (hk : k < l.length) (hx : ¬ dvE (l.getD k (0, 0, 0)) = 0) : dvsE l = ((k : Int), dvE (l.getD k (0, 0, 0))) := by
  have : ∀ j, j ≤ k → eachE dvE 0 l = eachE dvE j (l.drop j) := fun j => by
    induction j with
    | zero => intro _; simp
    | succ j ih => intro hj; rw [ih (by omega), eachE_drop _ (0, 0, 0) l j (by omega), if_pos (h j (by omega))]
  rw [dvsE, if_pos h0, this k (Nat.le_refl _), eachE_drop _ (0, 0, 0) l k hk, if_neg hx]
theorem dvsE_z {l : List Dv} (h1 : (dvsE l).2 = 0) : dvsE l = (0, 0) := by
  have h2 : (dvsE l).1 = 0 := by
    by_cases h0 : cntE l.length 5 = 0
    · rw [dvsE, if_pos h0] at h1 ⊢
      exact eachE_fst h1
    · rw [dvsE, if_neg h0]
  exact Prod.ext h2 h1
theorem C6 {l : List Dv} : PFD Tryz.prog 6 [.c (trs l)] (vbl (decide ((l.length : Int) ≤ 7))) := by
  refine pi1 fn6 ?_
  (repeat' first | (refine Owe.same ?_; first | refine Owe.o ?_ | refine Owe.mk ?_ ?_) | (refine Fork.same ?_; (first | refine fkD ?_ ?_ | refine fkN ?_ ?_ | refine fkM ?_ ?_) <;> intro h) | refine MvQ.stay ?_)
  (refine rqK rfl ?_; (repeat' first | exact rfl | (refine qS ?_; constructor)))
theorem C9 {l : List Dv} : l.length ≤ 1000000 → PFD Tryz.prog 9 [.c (trs l)] (.c (trs l)) := fun h => by
  refine pi1 fn9 ?_
  (repeat' first | (refine Owe.same ?_; first | refine Owe.o ?_ | refine Owe.mk ?_ ?_) | (refine Fork.same ?_; (first | refine fkD ?_ ?_ | refine fkN ?_ ?_ | refine fkM ?_ ?_) <;> intro h) | refine MvQ.stay ?_)
  (refine rqK rfl ?_; (repeat' first | exact rfl | (refine qS ?_; constructor)))
theorem C133 {n : Int} : (-4611686018427387904 ≤ n ∧ n ≤ 4611686018427387904) → PFD Tryz.prog 133 [vi .i64 n] (vi .i64 (max n (-n))) := fun h => by
  refine pi1 fn133 ?_
  (repeat' first | (refine Owe.same ?_; first | refine Owe.o ?_ | refine Owe.mk ?_ ?_) | (refine Fork.same ?_; (first | refine fkD ?_ ?_ | refine fkN ?_ ?_ | refine fkM ?_ ?_) <;> intro h) | refine MvQ.stay ?_)
  (refine rqK rfl ?_; (repeat' first | exact rfl | (refine qS ?_; constructor)))
theorem C53 {l : List Dv} : PFD Tryz.prog 53 [.c (trs l)] (.tup [vi .i64 (dvsE l).1, vi .i64 (dvsE l).2]) := by
  by_cases h0 : l.length = 0
  · have e : dvsE l = (0, 10) := by
      have : l = [] := List.length_eq_zero_iff.1 h0
      subst this; rfl
    rw [e]
    refine pi2 fn53 ?_
    (repeat' first | (refine Owe.same ?_; first | refine Owe.o ?_ | refine Owe.mk ?_ ?_) | (refine Fork.same ?_; (first | refine fkY ?_ | refine fkF ?_ | ((first | refine fkD ?_ ?_ | refine fkN ?_ ?_ | refine fkM ?_ ?_) <;> intro h))) | ((first | refine OpsL.same ?_ | refine OpsDL.same ?_); first | refine pK C23 rfl rfl ?_) | refine MvQ.stay ?_)
    (refine rqK rfl ?_; (repeat' first | exact rfl | (refine qS ?_; constructor)))
  · by_cases h1 : l.length ≤ 5
    · have hc : cntE l.length 5 = 0 := by rw [cntE, fst2, unl0 (by decide), unl0 (by decide)]; omega
      obtain ⟨q, hq⟩ : ∃ q, q = dvsE l := ⟨_, rfl⟩
      rw [← hq]
      refine pi2 fn53 ?_
      (repeat' first | (refine Owe.same ?_; first | refine Owe.o ?_ | refine Owe.mk ?_ ?_) | (refine Fork.same ?_; (first | refine fkY ?_ | refine fkF ?_ | ((first | refine fkD ?_ ?_ | refine fkN ?_ ?_ | refine fkM ?_ ?_) <;> intro h))) | ((first | refine OpsL.same ?_ | refine OpsDL.same ?_); first | refine pK C23 rfl rfl ?_) | refine MvQ.stay ?_)
      refine Sat.lp0 (fun k : Nat => [(4, vi .i64 k), (0, .c (trs l))]) (fun k => k ≤ l.length ∧ ∀ i, i < k → dvE (l.getD i (0, 0, 0)) = 0) (fun k => l.length - k) 0 ⟨Nat.zero_le _, fun i hi => by omega⟩ (by ((first | refine qen ?_ | refine qvs ?_ | refine qeq ?_ | refine qst ?_ | refine qv ?_ | refine qc ?_ | refine qe ?_ | refine qcs ?_ | skip); (repeat' first | exact rfl | (refine qS ?_; constructor)))) ?_
      intro k hk
      refine Fork.dec (fun hlt => ?_) (fun hlt => ?_)
      · have hlt : k < l.length := by omega
        obtain ⟨x, hx⟩ : ∃ x, x = l.getD k (0, 0, 0) := ⟨_, rfl⟩
        have e2 : ¬ dvOk x → q = ((k : Int), 2) := fun h => by
          have : dvE x = 2 := by rw [dvE, unl, decide_eq_false h]; rfl
          rw [hq, dvsE_e hc hk.2 hlt (by rw [← hx, this]; decide), ← hx, this]
        rw [hx] at e2
        (repeat' first | (refine Owe.same ?_; first | refine Owe.o ?_ | refine Owe.mk ?_ ?_) | (refine Fork.same ?_; (first | refine fkD ?_ ?_ | refine fkN ?_ ?_ | refine fkM ?_ ?_) <;> intro h) | ((first | refine OpsL.same ?_ | refine OpsDL.same ?_); first | refine pK C23 rfl rfl ?_) | refine MvQ.stay ?_)
        · rw [e2 fun hh => h hh.1]
          (refine rqK rfl ?_; (repeat' first | exact rfl | (refine qS ?_; constructor)))
        · rw [e2 fun hh => h hh.2.1]
          (refine rqK rfl ?_; (repeat' first | exact rfl | (refine qS ?_; constructor)))
        · rw [e2 fun hh => h hh.2.2]
          (refine rqK rfl ?_; (repeat' first | exact rfl | (refine qS ?_; constructor)))
        · rename_i h3 h4
          refine again0 (k + 1) ⟨hlt, fun i hi => ?_⟩ (by omega) (by ((first | refine qen ?_ | refine qvs ?_ | refine qeq ?_ | refine qst ?_ | refine qv ?_ | refine qc ?_ | refine qe ?_ | refine qcs ?_ | skip); (repeat' first | exact rfl | (refine qS ?_; constructor))))
          rcases Nat.lt_succ_iff_lt_or_eq.1 hi with h9 | rfl
          · exact hk.2 i h9
          · exact (unl0 (by decide)).2 ⟨h3, h4, h⟩
      · have : q = (0, 0) := hq.trans (dvsE_z (dvsE_ok.2 ⟨by omega, fun i hi => (unl0 (by decide)).1 (hk.2 i (by omega))⟩))
        subst this
        (repeat' first | (refine Owe.same ?_; first | refine Owe.o ?_ | refine Owe.mk ?_ ?_) | (refine Fork.same ?_; (first | refine fkY ?_ | refine fkF ?_ | ((first | refine fkD ?_ ?_ | refine fkN ?_ ?_ | refine fkM ?_ ?_) <;> intro h))) | ((first | refine OpsL.same ?_ | refine OpsDL.same ?_); first | refine pK C23 rfl rfl ?_) | refine MvQ.stay ?_)
        (refine rqK rfl ?_; (repeat' first | exact rfl | (refine qS ?_; constructor)))
    · have e : dvsE l = (0, 8) := by
        rw [dvsE]
        have h2 : cntE l.length 5 = 8 := by
          rw [cntE, fstE, if_pos ((unl0 (by decide)).2 (by omega)), fstE, unl, decide_eq_false (by omega)]; rfl
        rw [h2]; rfl
      rw [e]
      refine pi2 fn53 ?_
      (repeat' first | (refine Owe.same ?_; first | refine Owe.o ?_ | refine Owe.mk ?_ ?_) | (refine Fork.same ?_; (first | refine fkY ?_ | refine fkF ?_ | ((first | refine fkD ?_ ?_ | refine fkN ?_ ?_ | refine fkM ?_ ?_) <;> intro h))) | ((first | refine OpsL.same ?_ | refine OpsDL.same ?_); first | refine pK C23 rfl rfl ?_) | refine MvQ.stay ?_)
      (refine rqK rfl ?_; (repeat' first | exact rfl | (refine qS ?_; constructor)))
theorem C20 {l : List Dv} : PFD Tryz.prog 20 [.c (trs l)] (vi .i64 (dvsE l).2) := by
  refine pi1 fn20 ?_
  (repeat' first | (refine Owe.same ?_; first | refine Owe.o ?_ | refine Owe.mk ?_ ?_) | (refine Fork.same ?_; (first | refine fkD ?_ ?_ | refine fkN ?_ ?_ | refine fkM ?_ ?_) <;> intro h) | ((first | refine OpsL.same ?_ | refine OpsDL.same ?_); first | refine pK C53 rfl rfl ?_) | refine MvQ.stay ?_)
  (refine rqK rfl ?_; (repeat' first | exact rfl | (refine qS ?_; constructor)))
end Go.Pw

set_option linter.unusedSimpArgs false
set_option linter.unusedVariables false
namespace Go.Pw
set_option maxRecDepth 2000
open Go Go.Proofs A1 A2 A3 A4
end Go.Pw

set_option linter.unusedSimpArgs false
set_option linter.unusedVariables false
namespace Go.Pw
set_option maxRecDepth 2000
open Go Go.Proofs A1 A2 A3 A4
end Go.Pw

set_option linter.unusedSimpArgs false
set_option linter.unusedVariables false
namespace Go.Pw
set_option maxRecDepth 2000
open Go Go.Proofs A1 A2 A3 A4
end Go.Pw

set_option linter.unusedVariables false
set_option maxHeartbeats 2000000
set_option maxRecDepth 100000
namespace Go.Pw
open Go Go.Proofs
end Go.Pw

set_option linter.unusedSimpArgs false
set_option linter.unusedVariables false
namespace Go.Pw
set_option maxRecDepth 2000
open Go Go.Proofs A1 A2 A3 A4
end Go.Pw

set_option linter.unusedSimpArgs false
set_option linter.unusedVariables false
namespace Go.Pw
set_option maxRecDepth 2000
open Go Go.Proofs A1 A2 A3 A4
end Go.Pw

set_option linter.unusedSimpArgs false
set_option linter.unusedVariables false
set_option maxHeartbeats 1000000
namespace Go.Pw
set_option maxRecDepth 2000
open Go Go.Proofs A1 A2 A3 A4
end Go.Pw

set_option linter.unusedSimpArgs false
set_option linter.unusedVariables false
namespace Go.Pw
set_option maxRecDepth 2000
open Go Go.Proofs A1 A2 A3 A4
end Go.Pw

set_option linter.unusedSimpArgs false
set_option linter.unusedVariables false
set_option maxHeartbeats 1000000
namespace Go.Pw
set_option maxRecDepth 2000
open Go Go.Proofs A1 A2 A3 A4
end Go.Pw

set_option linter.unusedSimpArgs false
set_option linter.unusedVariables false
namespace Go.Pw
set_option maxRecDepth 2000
open Go Go.Proofs A1 A2 A3 A4
end Go.Pw

set_option linter.unusedSimpArgs false
set_option linter.unusedVariables false
set_option maxHeartbeats 1000000
namespace Go.Pw
set_option maxRecDepth 2000
open Go Go.Proofs A1 A2 A3 A4
end Go.Pw

set_option linter.unusedSimpArgs false
set_option linter.unusedVariables false
set_option maxHeartbeats 4000000
namespace Go.Pw
set_option maxRecDepth 2000
open Go Go.Proofs A1 A2 A3 A4
end Go.Pw

set_option linter.unusedSimpArgs false
set_option linter.unusedVariables false
namespace Go.Pw
set_option maxRecDepth 2000
open Go Go.Proofs A1 A2 A3 A4
end Go.Pw

set_option linter.unusedSimpArgs false
set_option linter.unusedVariables false
namespace Go.Pw
set_option maxRecDepth 2000
open Go Go.Proofs A1 A2 A3 A4
end Go.Pw

set_option linter.unusedSimpArgs false
set_option linter.unusedVariables false
set_option maxHeartbeats 1000000
namespace Go.Pw
set_option maxRecDepth 2000
open Go Go.Proofs A1 A2 A3 A4
end Go.Pw

set_option linter.unusedSimpArgs false
set_option linter.unusedVariables false
set_option maxHeartbeats 1000000
namespace Go.Pw
set_option maxRecDepth 2000
open Go Go.Proofs A1 A2 A3 A4
end Go.Pw

set_option linter.unusedSimpArgs false
set_option linter.unusedVariables false
set_option maxHeartbeats 1000000
namespace Go.Pw
set_option maxRecDepth 2000
open Go Go.Proofs A1 A2 A3 A4
end Go.Pw

set_option linter.unusedSimpArgs false
set_option linter.unusedVariables false
set_option maxHeartbeats 2000000
namespace Go.Pw
set_option maxRecDepth 2000
open Go Go.Proofs A1 A2 A3 A4
end Go.Pw

set_option linter.unusedSimpArgs false
set_option linter.unusedVariables false
set_option maxHeartbeats 4000000
namespace Go.Pw
set_option maxRecDepth 2000
open Go Go.Proofs A1 A2 A3 A4
end Go.Pw

set_option linter.unusedSimpArgs false
set_option linter.unusedVariables false
set_option maxHeartbeats 1000000
namespace Go.Pw
open Go.RowKit Go.Lib
set_option maxRecDepth 2000
open Go Go.Proofs A1 A2 A3 A4
theorem jn_len {c : UInt8} {M : Nat} : ∀ {l : List By}, (∀ x ∈ l, x.length ≤ M) → (jnG c l).length ≤ l.length * (M + 1)
  | [], _ => by simp [jnG]
  | [x], h => by have := h x (by simp); simp [jnG]; omega
  | x :: y :: r, h => by
    have h1 := jn_len (c := c) (M := M) (l := y :: r) (fun z hz => h z (List.mem_cons_of_mem _ hz))
    have h2 := h x (by simp)
    rw [jn_cons (by simp), List.length_append, List.length_cons, List.length_cons, Nat.add_mul, Nat.one_mul]
    omega
/-- The words of numbers. -/
abbrev wdL (l : List Int) : List By := l.map itoa
def wdS (l : List Int) : By := jnG 32 (wdL l)
theorem wd_len {l : List Int} (h : ∀ n ∈ l, i64P n) : (wdS l).length ≤ l.length * 22 := by
  have := jn_len (c := 32) (M := 21) (l := wdL l) (fun x hx => by
    obtain ⟨n, hn, rfl⟩ := List.mem_map.1 hx
    exact itoa_length_le n (h n hn).1 (h n hn).2)
  rw [List.length_map] at this; exact this
theorem tk1 {α : Type} {l : List α} {k : Nat} (d : α) (h : k < l.length) : l.take (k + 1) = l.take k ++ [l.getD k d] := by
  rw [List.take_add_one, List.getElem?_eq_getElem h, List.getD_eq_getElem?_getD, List.getElem?_eq_getElem h]; rfl
theorem C41 {l : List Int} : (l.length ≤ 1000 ∧ ∀ n ∈ l, i64P n) → PFD Tryz.prog 41 [.c (ints l)] (sv (wdS l)) := fun ⟨hl, h⟩ => by
  refine pi1 fn41 ?_
  (repeat' first | (refine Owe.same ?_; first | refine Owe.o ?_ | refine Owe.mk ?_ ?_) | (refine Fork.same ?_; (first | refine fkD ?_ ?_ | refine fkN ?_ ?_ | refine fkM ?_ ?_) <;> intro h) | refine MvQ.stay ?_)
  refine Sat.nilS 3 9 1 (fun i => rS (([] : List By).getD i [])) rfl ?_
  refine Sat.lp (fun k : Nat => ⟨[(8, vi .i64 k), (7, vi .i64 l.length), (6, .c (ints l)), (3, .c (.ms 0 (wdL (l.take k)).length))], [(0, rowv 9 1 rS [] (wdL (l.take k)))], 1⟩)
    (fun k => k ≤ l.length) (fun k => l.length - k) 0 [0] (Nat.zero_le _) ?_ ?_
  · (refine qis ?_ ?_ <;> (repeat' first | exact rfl | (refine qS ?_; constructor)))
  · intro k hk
    refine Fork.dec (fun hlt => ?_) (fun hlt => ?_)
    · have hlt : k < l.length := by omega
      have hi : i64P (l.getD (k : Int).toNat 0) := h _ (by
        show l.getD k 0 ∈ l
        rw [List.getD_eq_getElem?_getD, List.getElem?_eq_getElem hlt]; exact List.getElem_mem ..)
      have h84 := C84 hi
      have ht : wdL (l.take (k + 1)) = wdL (l.take k) ++ [itoa (l.getD k 0)] := by
        rw [tk1 0 hlt, wdL, List.map_append]; rfl
      have hk1 : (wdL (l.take k)).length ≤ 1000 := by rw [List.length_map, List.length_take]; omega
      (repeat' first | (refine Owe.same ?_; first | refine Owe.o ?_ | refine Owe.mk ?_ ?_) | (refine Fork.same ?_; (first | refine fkY ?_ | refine fkF ?_ | ((first | refine fkD ?_ ?_ | refine fkN ?_ ?_ | refine fkM ?_ ?_) <;> intro h))) | ((first | refine OpsL.same ?_ | refine OpsDL.same ?_); first | refine oK h84 rfl rfl rfl ?_) | refine MvQ.stay ?_)
      refine again (k + 1) [1] hlt (by omega) ?_
      (refine qis ?_ ?_ <;> (repeat' first | exact rfl | (refine qS ?_; constructor)))
      · rw [ht, List.length_append]; rfl
      · exact ⟨_, rfl, ht⟩
    · have hk1 : k = l.length := by omega
      have hw : wdL (l.take k) = wdL l := by rw [List.take_of_length_le (by omega)]
      have hj := wd_len h
      have hll : (wdL l).length = l.length := List.length_map ..
      have h42 := C42 (l := wdL l) (c := 32) ⟨by omega, by show (wdS l).length ≤ _; omega⟩
      rw [hw]
      (repeat' first | (refine Owe.same ?_; first | refine Owe.o ?_ | refine Owe.mk ?_ ?_) | (refine Fork.same ?_; (first | refine fkD ?_ ?_ | refine fkN ?_ ?_ | refine fkM ?_ ?_) <;> intro h))
      refine MvQ.frz 3 _ rfl rfl (Nat.le_refl _) ?_
      (repeat' first | (refine Owe.same ?_; first | refine Owe.o ?_ | refine Owe.mk ?_ ?_) | (refine Fork.same ?_; (first | refine fkY ?_ | refine fkF ?_ | ((first | refine fkD ?_ ?_ | refine fkN ?_ ?_ | refine fkM ?_ ?_) <;> intro h))) | ((first | refine OpsL.same ?_ | refine OpsDL.same ?_); first | refine oK h42 rfl rfl rfl ?_) | refine MvQ.stay ?_)
      (refine rqK rfl ?_; (repeat' first | exact rfl | (refine qS ?_; constructor)))
/-- Devices as a string. -/
abbrev Tr3 := Int × Int × Int
abbrev dvW (d : Tr3) : By := wdS [d.1, d.2.1, d.2.2]
def dvS (l : List Tr3) : By := jnG 59 (l.map dvW)
abbrev w64P (d : Tr3) : Prop := i64P d.1 ∧ i64P d.2.1 ∧ i64P d.2.2
theorem i64_3 {a b c : Int} (h1 : i64P a) (h2 : i64P b) (h3 : i64P c) : ∀ n ∈ [a, b, c], i64P n := fun n hn => by
  simp only [List.mem_cons, List.not_mem_nil, or_false] at hn
  rcases hn with rfl | rfl | rfl <;> assumption
theorem C41_3 {a b c : Int} (h1 : i64P a) (h2 : i64P b) (h3 : i64P c) : PFD Tryz.prog 41 [.c (ints [a, b, c])] (sv (wdS [a, b, c])) := C41 ⟨by simp, i64_3 h1 h2 h3⟩
theorem dv_len {l : List Tr3} (h : ∀ d ∈ l, w64P d) : (dvS l).length ≤ l.length * 67 := by
  have := jn_len (c := 59) (M := 66) (l := l.map dvW) (fun x hx => by
    obtain ⟨d, hd, rfl⟩ := List.mem_map.1 hx
    have hd := h d hd
    exact wd_len (i64_3 hd.1 hd.2.1 hd.2.2))
  rw [List.length_map] at this; exact this
theorem C8 {l : List Tr3} : (l.length ≤ 1000 ∧ ∀ d ∈ l, w64P d) → PFD Tryz.prog 8 [.c (trs l)] (sv (dvS l)) := fun ⟨hl, h⟩ => by
  refine pi1 fn8 ?_
  (repeat' first | (refine Owe.same ?_; first | refine Owe.o ?_ | refine Owe.mk ?_ ?_) | (refine Fork.same ?_; (first | refine fkD ?_ ?_ | refine fkN ?_ ?_ | refine fkM ?_ ?_) <;> intro h) | refine MvQ.stay ?_)
  refine Sat.nilS 3 9 1 (fun i => rS (([] : List By).getD i [])) rfl ?_
  refine Sat.lp (fun k : Nat => ⟨[(8, vi .i64 k), (7, vi .i64 l.length), (6, .c (trs l)), (3, .c (.ms 0 ((l.take k).map dvW).length))], [(0, rowv 9 1 rS [] ((l.take k).map dvW))], 1⟩)
    (fun k => k ≤ l.length) (fun k => l.length - k) 0 [0] (Nat.zero_le _) ?_ ?_
  · (refine qis ?_ ?_ <;> (repeat' first | exact rfl | (refine qS ?_; constructor)))
  · intro k hk
    refine Fork.dec (fun hlt => ?_) (fun hlt => ?_)
    · have hlt : k < l.length := by omega
      have hi : w64P (l.getD (k : Int).toNat (0, 0, 0)) := h _ (getD_mem (0, 0, 0) hlt)
      have h41 := C41_3 hi.1 hi.2.1 hi.2.2
      have ht : (l.take (k + 1)).map dvW = (l.take k).map dvW ++ [dvW (l.getD k (0, 0, 0))] := by
        rw [tk1 (0, 0, 0) hlt, List.map_append]; rfl
      have hk1 : ((l.take k).map dvW).length ≤ 1000 := by rw [List.length_map, List.length_take]; omega
      (repeat' first | (refine Owe.same ?_; first | refine Owe.o ?_ | refine Owe.mk ?_ ?_) | (refine Fork.same ?_; (first | refine fkD ?_ ?_ | refine fkN ?_ ?_ | refine fkM ?_ ?_) <;> intro h) | ((first | refine OpsL.same ?_ | refine OpsDL.same ?_); first | refine pK h41 rfl rfl ?_) | refine MvQ.stay ?_)
      refine again (k + 1) [2] hlt (by omega) ?_
      (refine qis ?_ ?_ <;> (repeat' first | exact rfl | (refine qS ?_; constructor)))
      · rw [ht, List.length_append]; rfl
      · exact ⟨_, rfl, ht⟩
    · have hk1 : k = l.length := by omega
      have hw : (l.take k).map dvW = l.map dvW := by rw [List.take_of_length_le (by omega)]
      have hj := dv_len h
      have hll : (l.map dvW).length = l.length := List.length_map ..
      have h42 := C42 (l := l.map dvW) (c := 59) ⟨by omega, by show (dvS l).length ≤ _; omega⟩
      rw [hw]
      (repeat' first | (refine Owe.same ?_; first | refine Owe.o ?_ | refine Owe.mk ?_ ?_) | (refine Fork.same ?_; (first | refine fkD ?_ ?_ | refine fkN ?_ ?_ | refine fkM ?_ ?_) <;> intro h))
      refine MvQ.frz 3 _ rfl rfl (Nat.le_refl _) ?_
      (repeat' first | (refine Owe.same ?_; first | refine Owe.o ?_ | refine Owe.mk ?_ ?_) | (refine Fork.same ?_; (first | refine fkY ?_ | refine fkF ?_ | ((first | refine fkD ?_ ?_ | refine fkN ?_ ?_ | refine fkM ?_ ?_) <;> intro h))) | ((first | refine OpsL.same ?_ | refine OpsDL.same ?_); first | refine oK h42 rfl rfl rfl ?_) | refine MvQ.stay ?_)
      (refine rqK rfl ?_; (repeat' first | exact rfl | (refine qS ?_; constructor)))
theorem ix_hit {c : UInt8} {r : By} : ∀ {p : By}, c ∉ p → indexByte (p ++ c :: r) c = p.length
  | [], _ => by simp [indexByte]
  | x :: p, h => by
    rw [List.mem_cons, not_or] at h
    have e : ¬ x = c := fun e => h.1 e.symm
    have ih := ix_hit (r := r) h.2
    have : ¬ ((p.length : Int) = -1) := by omega
    simp [indexByte, e, ih, this]
theorem ix_miss {c : UInt8} : ∀ {l : By}, c ∉ l → indexByte l c = -1
  | [], _ => rfl
  | x :: l, h => by
    rw [List.mem_cons, not_or] at h
    have e : ¬ x = c := fun e => h.1 e.symm
    have ih := ix_miss h.2
    simp [indexByte, e, ih]
theorem cutB_bs {l : By} {i j : Nat} : cutB (bs l) i j = bs ((l.take j).drop i) := by simp [cutB, bs]
theorem C90h {c : UInt8} {p r : By} : c ∉ p → p.length + r.length ≤ 1000000 → PFD Tryz.prog 90 [sv (p ++ c :: r), .c (.d (.v (.string ⟨#[c]⟩)))] (.tup [sv p, sv r, vbl true]) := fun hc hl => by
  have h130 := C130 (l := p ++ c :: r) (c := c)
  rw [ix_hit hc] at h130
  have hsz : (bs (p ++ c :: r)).size = p.length + r.length + 1 := by rw [bs_size]; simp; omega
  have hs1 : (ByteArray.mk #[c]).size = 1 := rfl
  refine pi3 fn90 ?_
  (repeat' first | (refine Owe.same ?_; first | refine Owe.o ?_ | refine Owe.mk ?_ ?_) | (refine Fork.same ?_; (first | refine fkD ?_ ?_ | refine fkN ?_ ?_ | refine fkM ?_ ?_) <;> intro h) | ((first | refine OpsL.same ?_ | refine OpsDL.same ?_); first | refine pK h130 rfl rfl ?_) | refine MvQ.stay ?_)
  · (refine rqK rfl ?_; (repeat' first | exact rfl | (refine qS ?_; constructor)))
    · refine VEq.str ?_
      rw [cutB_bs]
      simp
    · refine VEq.str ?_
      have e : ((p.length : Int) + ((ByteArray.mk #[c]).size : Nat)).toNat = p.length + 1 := by rw [hs1]; omega
      rw [e]
      simp [bs]
  · omega
theorem C90m {c : UInt8} {s : By} : c ∉ s → PFD Tryz.prog 90 [sv s, .c (.d (.v (.string ⟨#[c]⟩)))] (.tup [sv s, sv [], vbl false]) := fun hc => by
  have h130 := C130 (l := s) (c := c)
  rw [ix_miss hc] at h130
  refine pi3 fn90 ?_
  (repeat' first | (refine Owe.same ?_; first | refine Owe.o ?_ | refine Owe.mk ?_ ?_) | (refine Fork.same ?_; (first | refine fkD ?_ ?_ | refine fkN ?_ ?_ | refine fkM ?_ ?_) <;> intro h) | ((first | refine OpsL.same ?_ | refine OpsDL.same ?_); first | refine pK h130 rfl rfl ?_) | refine MvQ.stay ?_)
  · omega
  · (refine rqK rfl ?_; (repeat' first | exact rfl | (refine qS ?_; constructor)))
theorem C48h {c : UInt8} {p r : By} : c ∉ p → p.length + r.length ≤ 1000000 → PFD Tryz.prog 48 [sv (p ++ c :: r), .c (.d (.v (.string ⟨#[c]⟩)))] (.tup [sv p, sv r, vbl true]) := fun hc hl => by
  have h := C90h hc hl
  refine pi3 fn48 ?_
  (repeat' first | (refine Owe.same ?_; first | refine Owe.o ?_ | refine Owe.mk ?_ ?_) | (refine Fork.same ?_; (first | refine fkD ?_ ?_ | refine fkN ?_ ?_ | refine fkM ?_ ?_) <;> intro h) | ((first | refine OpsL.same ?_ | refine OpsDL.same ?_); first | refine pK h rfl rfl ?_) | refine MvQ.stay ?_)
  (refine rqK rfl ?_; (repeat' first | exact rfl | (refine qS ?_; constructor)))
theorem C48m {c : UInt8} {s : By} : c ∉ s → PFD Tryz.prog 48 [sv s, .c (.d (.v (.string ⟨#[c]⟩)))] (.tup [sv s, sv [], vbl false]) := fun hc => by
  have h := C90m hc
  refine pi3 fn48 ?_
  (repeat' first | (refine Owe.same ?_; first | refine Owe.o ?_ | refine Owe.mk ?_ ?_) | (refine Fork.same ?_; (first | refine fkD ?_ ?_ | refine fkN ?_ ?_ | refine fkM ?_ ?_) <;> intro h) | ((first | refine OpsL.same ?_ | refine OpsDL.same ?_); first | refine pK h rfl rfl ?_) | refine MvQ.stay ?_)
  (refine rqK rfl ?_; (repeat' first | exact rfl | (refine qS ?_; constructor)))
end Go.Pw

set_option linter.unusedSimpArgs false
set_option linter.unusedVariables false
set_option maxHeartbeats 1000000
namespace Go.Pw
open Go.RowKit Go.Lib
set_option maxRecDepth 2000
open Go Go.Proofs A1 A2 A3 A4
theorem atoi_i64 {s : By} {v : Int} (h : atoiAll s = .ok v) : i64P v := by
  cases s with
  | nil => cases h
  | cons c r =>
    rw [atoiAll] at h
    split at h
    · cases h
    · cases h
    · rename_i u hu
      split at h
      · cases h
      · split at h
        · cases h
        · rename_i h1 h2
          injection h with h
          subst h
          by_cases hn : c.toNat = 45
          · rw [if_pos hn]
            have : ¬ 9223372036854775808 < u := fun hh => h2 ⟨hn, hh⟩
            omega
          · rw [if_neg hn]
            have : ¬ 9223372036854775808 ≤ u := fun hh => h1 ⟨hn, hh⟩
            omega
theorem C88o {s : By} {v : Int} (h : atoiAll s = .ok v) : s.length ≤ 1000000 → PFD Tryz.prog 88 [sv s] (.tup [vi .i64 v, .c (.d (.v .nilIface))]) := fun hs => by
  have := C88 hs
  unfold atV at this
  rw [h] at this; exact this
theorem C88e {s : By} (h : ∀ v, atoiAll s ≠ .ok v) : s.length ≤ 1000000 → ∃ n, PFD Tryz.prog 88 [sv s] (.tup [vi .i64 n, .c .er]) := fun hs => by
  have := C88 hs
  unfold atV at this
  match e : atoiAll s with
  | .ok v => exact absurd e (h v)
  | Lib.NumEnd.syntax => rw [e] at this; exact ⟨_, this⟩
  | .range => rw [e] at this; exact ⟨_, this⟩
/-- The natural number of three digits at most that a word is; those of words. -/
def ntV (w : By) : Option Int := match numV w 3 with
  | some n => if 0 ≤ n then some n else none
  | none => none
def ntL : List By → Option (List Int)
  | [] => some []
  | w :: r => match ntV w, ntL r with
    | some n, some l => some (n :: l)
    | _, _ => none
def naE (s : By) (n : Int) : List Int × Bool := match ntL (cutG 32 [] s) with
  | some l => (l, decide ((l.length : Int) = n))
  | none => ([], false)
theorem ntL_app {w : By} : ∀ {l : List By} {a : List Int}, ntL l = some a → ntL (l ++ [w]) = match ntV w with | some n => some (a ++ [n]) | none => none
  | [], a, h => by
    cases h
    cases hw : ntV w <;> simp [ntL, hw]
  | x :: l, a, h => by
    rw [ntL] at h
    rw [List.cons_append, ntL]
    split at h
    · rename_i n m hn hm
      cases h
      rw [ntL_app hm, hn]
      cases ntV w <;> simp
    · cases h
theorem ntL_bad {w : By} (hw : ntV w = none) : ∀ {l r : List By}, ntL (l ++ w :: r) = none
  | [], r => by rw [List.nil_append, ntL, hw]
  | x :: l, r => by
    rw [List.cons_append, ntL, ntL_bad hw]
    cases ntV x <;> rfl
theorem naE_bad {s w : By} {n : Int} {dn rr : List By} (h : cutG 32 [] s = dn ++ w :: rr) (hw : ntV w = none) : naE s n = ([], false) := by
  unfold naE
  rw [h, ntL_bad hw]
theorem naE_good {s : By} {n : Int} {l : List Int} (h : ntL (cutG 32 [] s) = some l) : naE s n = (l, decide ((l.length : Int) = n)) := by
  unfold naE
  rw [h]
theorem ntV_ok {w : By} {v : Int} (h1 : atoiAll w = .ok v) (h2 : 0 ≤ v) (h3 : itoa v = w) (h4 : (w.length : Int) ≤ 3) : ntV w = some v := by
  have h := ((nat_iff (d := 3) (by decide)).1 ⟨h1, h2, h3, h4⟩).1
  unfold ntV; rw [h]
  simp [h2]
theorem ntV_no {w : By} (h : ¬ ∃ v, atoiAll w = .ok v ∧ 0 ≤ v ∧ itoa v = w ∧ (w.length : Int) ≤ 3) : ntV w = none := by
  cases hn : numV w 3 with
  | none => unfold ntV; rw [hn]
  | some n =>
    unfold ntV; rw [hn]
    by_cases h0 : 0 ≤ n
    · exact absurd ⟨n, (nat_iff (d := 3) (by decide)).2 ⟨hn, h0⟩⟩ h
    · simp [h0]
theorem C46 {s : By} {n : Int} : s.length ≤ 1000000 → PFD Tryz.prog 46 [sv s, vi .i64 n] (.tup [.c (ints (naE s n).1), vbl (naE s n).2]) := fun hs => by
  refine pi2 fn46 ?_
  (repeat' first | (refine Owe.same ?_; first | refine Owe.o ?_ | refine Owe.mk ?_ ?_) | (refine Fork.same ?_; (first | refine fkD ?_ ?_ | refine fkN ?_ ?_ | refine fkM ?_ ?_) <;> intro h) | refine MvQ.stay ?_)
  refine Ops.cs rfl rfl (CallS.of fn45 rfl ?_)
  (repeat' first | (refine Owe.same ?_; first | refine Owe.o ?_ | refine Owe.mk ?_ ?_) | (refine Fork.same ?_; (first | refine fkD ?_ ?_ | refine fkN ?_ ?_ | refine fkM ?_ ?_) <;> intro h) | refine MvQ.stay ?_)
  refine Ops.cs rfl rfl (CallS.of fn87 rfl ?_)
  (repeat' first | (refine Owe.same ?_; first | refine Owe.o ?_ | refine Owe.mk ?_ ?_) | (refine Fork.same ?_; (first | refine fkD ?_ ?_ | refine fkN ?_ ?_ | refine fkM ?_ ?_) <;> intro h) | refine MvQ.stay ?_)
  refine Sat.keep [1, 4, 5, 6, 11] ?_
  refine Sat.rf rfl rfl (CallS.of fn122 rfl ?_)
  (repeat' first | (refine Owe.same ?_; first | refine Owe.o ?_ | refine Owe.mk ?_ ?_) | (refine Fork.same ?_; (first | refine fkD ?_ ?_ | refine fkN ?_ ?_ | refine fkM ?_ ?_) <;> intro h) | refine MvQ.stay ?_)
  · exact absurd h (by decide)
  refine Sat.nilB 2 0 3 1 (fun i => r1 (([] : List Int).getD i 0)) rfl rfl ?_
  refine Sat.lp (fun st : List Int × By => ⟨[(0, .c (.yd 6)), (1, .c (.bp 4 0)), (2, .c (.bp 3 0)), (3, .c (.bp 5 0))],
      [(0, .box [.d (.v (.slice none 0 0))]), (1, .box [.d (.v (.bool false))]), (2, .box [.ms 7 st.1.length]), (3, .box [.d (svD st.2)]), (4, .box [.d (.v (.string ⟨#[32]⟩))]), (5, .box [int 0]),
       (6, .lp [(1, vi .i64 n), (4, .c (.bp 0 0)), (5, .c (.bp 1 0)), (6, .c (.bp 2 0)), (11, .c (.fn 122 [4, 3, 5]))] .ready none (RR Tryz.prog 44 [12] ra46 rb46)), (7, rowv 3 1 r1 0 st.1)], 8⟩)
    (fun st : List Int × By => st.1.length + st.2.length ≤ 1000000 ∧ ∃ dn, cutG 32 [] s = dn ++ cutG 32 [] st.2 ∧ ntL dn = some st.1) (fun st : List Int × By => st.2.length) ([], s) [7] ⟨by simpa using hs, [], rfl, rfl⟩ ?_ ?_
  · (refine qis ?_ ?_ <;> (repeat' first | exact rfl | (refine qS ?_; constructor)))
  · rintro ⟨acc, rest⟩ ⟨hlen, dn, hcut, hdn⟩
    simp only at hlen hcut hdn
    rcases ix_cases 32 rest with ⟨hi, hm⟩ | ⟨p, r, rfl, hm, hi⟩
    · have h124 := C124 (l := rest) (c := 32)
      rw [hi] at h124
      (repeat' first | (refine Owe.same ?_; first | refine Owe.o ?_ | refine Owe.mk ?_ ?_) | (refine Fork.same ?_; (first | refine fkD ?_ ?_ | refine fkN ?_ ?_ | refine fkM ?_ ?_) <;> intro h) | ((first | refine OpsL.same ?_ | refine OpsDL.same ?_); first | refine pK h124 rfl rfl ?_) | refine MvQ.stay ?_)
      · refine OpsL.as 50 (sv rest) (.refl _) ?_
        by_cases hok : ∃ v, atoiAll rest = .ok v
        · obtain ⟨v, hv⟩ := hok
          have h88 := C88o hv (by omega)
          have h84 := C84 (atoi_i64 hv)
          have bad : (¬ ∃ v, atoiAll rest = .ok v ∧ 0 ≤ v ∧ itoa v = rest ∧ (rest.length : Int) ≤ 3) → naE s n = ([], false) := fun hh => naE_bad (rr := []) (hcut.trans (by rw [cutG_miss hm, List.nil_append])) (ntV_no hh)
          have only : ∀ {v'}, atoiAll rest = .ok v' → v' = v := fun h => by rw [hv] at h; injection h with h; exact h.symm
          refine Ops.yd rfl rfl rfl rfl rfl ?_
          (repeat' first | (refine Owe.same ?_; first | refine Owe.o ?_ | refine Owe.mk ?_ ?_) | (refine Fork.same ?_; (first | refine fkD ?_ ?_ | refine fkN ?_ ?_ | refine fkM ?_ ?_) <;> intro h) | refine MvQ.stay ?_)
          refine And.intro rfl (Exists.intro _ (And.intro rfl ?_))
          (repeat' first | (refine Owe.same ?_; first | refine Owe.o ?_ | refine Owe.mk ?_ ?_) | (refine Fork.same ?_; (first | refine fkD ?_ ?_ | refine fkN ?_ ?_ | refine fkM ?_ ?_) <;> intro h) | ((first | refine OpsL.same ?_ | refine OpsDL.same ?_); first | refine pK h88 rfl rfl ?_ | refine pK h84 rfl rfl ?_) | refine MvQ.stay ?_)
          · refine Exists.intro _ (Exists.intro _ (Exists.intro _ (And.intro rfl ?_)))
            (repeat' first | (refine Owe.same ?_; first | refine Owe.o ?_ | refine Owe.mk ?_ ?_) | (refine Fork.same ?_; (first | refine fkD ?_ ?_ | refine fkN ?_ ?_ | refine fkM ?_ ?_) <;> intro h) | refine MvQ.stay ?_)
            rw [bad (fun ⟨v', h1, h2, _⟩ => by have := only h1; omega)]
            (refine rqK rfl ?_; (repeat' first | exact rfl | (refine qS ?_; constructor)))
          · refine Exists.intro _ (Exists.intro _ (Exists.intro _ (And.intro rfl ?_)))
            (repeat' first | (refine Owe.same ?_; first | refine Owe.o ?_ | refine Owe.mk ?_ ?_) | (refine Fork.same ?_; (first | refine fkD ?_ ?_ | refine fkN ?_ ?_ | refine fkM ?_ ?_) <;> intro h) | refine MvQ.stay ?_)
            rw [bad (fun ⟨v', h1, _, h3, _⟩ => by have := only h1; subst this; exact h (by rw [h3]))]
            (refine rqK rfl ?_; (repeat' first | exact rfl | (refine qS ?_; constructor)))
          · refine Exists.intro _ (Exists.intro _ (Exists.intro _ (And.intro rfl ?_)))
            (repeat' first | (refine Owe.same ?_; first | refine Owe.o ?_ | refine Owe.mk ?_ ?_) | (refine Fork.same ?_; (first | refine fkD ?_ ?_ | refine fkN ?_ ?_ | refine fkM ?_ ?_) <;> intro h) | refine MvQ.stay ?_)
            rw [bad (fun ⟨v', h1, _, _, h4⟩ => by rw [bs_size] at h; omega)]
            (refine rqK rfl ?_; (repeat' first | exact rfl | (refine qS ?_; constructor)))
          · have hz : itoa v = rest := by simpa [bs] using (‹(bs (itoa v)).data.toList = (bs rest).data.toList›)
            have hnt := ntV_ok hv (by omega) hz (by rw [bs_size] at h; omega)
            rw [naE_good (l := acc ++ [v]) (by rw [hcut, cutG_miss hm, List.nil_append, ntL_app hdn, hnt])]
            refine Exists.intro _ (Exists.intro _ (Exists.intro _ (And.intro rfl ?_)))
            (repeat' first | (refine Owe.same ?_; first | refine Owe.o ?_ | refine Owe.mk ?_ ?_) | (refine Fork.same ?_; (first | refine fkD ?_ ?_ | refine fkN ?_ ?_ | refine fkM ?_ ?_) <;> intro h) | refine MvQ.stay ?_)
            refine rqF 0 _ rfl rfl rfl ?_; (repeat' first | exact rfl | (refine qS ?_; constructor))
            · exact ⟨v, rfl, rfl⟩
            · simp
        · obtain ⟨m, h88⟩ := C88e (fun v hv => hok ⟨v, hv⟩) (show rest.length ≤ 1000000 by omega)
          have hbad := naE_bad (n := n) (rr := []) (hcut.trans (by rw [cutG_miss hm, List.nil_append])) (ntV_no (w := rest) (fun ⟨v, hv, _⟩ => hok ⟨v, hv⟩))
          refine Ops.yd rfl rfl rfl rfl rfl ?_
          (repeat' first | (refine Owe.same ?_; first | refine Owe.o ?_ | refine Owe.mk ?_ ?_) | (refine Fork.same ?_; (first | refine fkD ?_ ?_ | refine fkN ?_ ?_ | refine fkM ?_ ?_) <;> intro h) | refine MvQ.stay ?_)
          refine And.intro rfl (Exists.intro _ (And.intro rfl ?_))
          (repeat' first | (refine Owe.same ?_; first | refine Owe.o ?_ | refine Owe.mk ?_ ?_) | (refine Fork.same ?_; (first | refine fkD ?_ ?_ | refine fkN ?_ ?_ | refine fkM ?_ ?_) <;> intro h) | ((first | refine OpsL.same ?_ | refine OpsDL.same ?_); first | refine pK h88 rfl rfl ?_) | refine MvQ.stay ?_)
          refine Exists.intro _ (Exists.intro _ (Exists.intro _ (And.intro rfl ?_)))
          (repeat' first | (refine Owe.same ?_; first | refine Owe.o ?_ | refine Owe.mk ?_ ?_) | (refine Fork.same ?_; (first | refine fkD ?_ ?_ | refine fkN ?_ ?_ | refine fkM ?_ ?_) <;> intro h) | refine MvQ.stay ?_)
          rw [hbad]
          (refine rqK rfl ?_; (repeat' first | exact rfl | (refine qS ?_; constructor)))
      · exact absurd (by decide) h
    · have h124 := C124 (l := p ++ 32 :: r) (c := 32)
      rw [hi] at h124
      have hsz : (bs (p ++ 32 :: r)).size = p.length + r.length + 1 := by rw [bs_size]; simp; omega
      have hs1 : (ByteArray.mk #[32]).size = 1 := rfl
      (repeat' first | (refine Owe.same ?_; first | refine Owe.o ?_ | refine Owe.mk ?_ ?_) | (refine Fork.same ?_; (first | refine fkD ?_ ?_ | refine fkN ?_ ?_ | refine fkM ?_ ?_) <;> intro h) | ((first | refine OpsL.same ?_ | refine OpsDL.same ?_); first | refine pK h124 rfl rfl ?_) | refine MvQ.stay ?_)
      · omega
      · rw [show (bs (acc, p ++ 32 :: r).snd).size = _ from hsz]
        have hlp : p.length + r.length ≤ 1000000 := by simp at hlen; omega
        exact ob
      refine OpsL.as 40 (sv p) ?_ ?_
      · refine VEq.str ?_
        rw [cutB_bs]; simp
      have hlp : p.length + r.length ≤ 1000000 := by simp at hlen; omega
      by_cases hok : ∃ v, atoiAll p = .ok v
      · obtain ⟨v, hv⟩ := hok
        have h88 := C88o hv (by omega)
        have h84 := C84 (atoi_i64 hv)
        refine Ops.yd rfl rfl rfl rfl rfl ?_
        (repeat' first | (refine Owe.same ?_; first | refine Owe.o ?_ | refine Owe.mk ?_ ?_) | (refine Fork.same ?_; (first | refine fkD ?_ ?_ | refine fkN ?_ ?_ | refine fkM ?_ ?_) <;> intro h) | refine MvQ.stay ?_)
        refine And.intro rfl (Exists.intro _ (And.intro rfl ?_))
        have bad : (¬ ∃ v, atoiAll p = .ok v ∧ 0 ≤ v ∧ itoa v = p ∧ (p.length : Int) ≤ 3) → naE s n = ([], false) := fun hh => naE_bad (hcut.trans (by rw [cutG_hit hm, List.nil_append])) (ntV_no hh)
        have only : ∀ {v'}, atoiAll p = .ok v' → v' = v := fun h => by rw [hv] at h; injection h with h; exact h.symm
        (repeat' first | (refine Owe.same ?_; first | refine Owe.o ?_ | refine Owe.mk ?_ ?_) | (refine Fork.same ?_; (first | refine fkD ?_ ?_ | refine fkN ?_ ?_ | refine fkM ?_ ?_) <;> intro h) | ((first | refine OpsL.same ?_ | refine OpsDL.same ?_); first | refine pK h88 rfl rfl ?_ | refine pK h84 rfl rfl ?_) | refine MvQ.stay ?_)
        · refine Exists.intro _ (Exists.intro _ (Exists.intro _ (And.intro rfl ?_)))
          (repeat' first | (refine Owe.same ?_; first | refine Owe.o ?_ | refine Owe.mk ?_ ?_) | (refine Fork.same ?_; (first | refine fkD ?_ ?_ | refine fkN ?_ ?_ | refine fkM ?_ ?_) <;> intro h) | refine MvQ.stay ?_)
          rw [bad (fun ⟨v', h1, h2, _⟩ => by have := only h1; omega)]
          (refine rqK rfl ?_; (repeat' first | exact rfl | (refine qS ?_; constructor)))
        · refine Exists.intro _ (Exists.intro _ (Exists.intro _ (And.intro rfl ?_)))
          (repeat' first | (refine Owe.same ?_; first | refine Owe.o ?_ | refine Owe.mk ?_ ?_) | (refine Fork.same ?_; (first | refine fkD ?_ ?_ | refine fkN ?_ ?_ | refine fkM ?_ ?_) <;> intro h) | refine MvQ.stay ?_)
          rw [bad (fun ⟨v', h1, _, h3, _⟩ => by have := only h1; subst this; exact h (by rw [h3]))]
          (refine rqK rfl ?_; (repeat' first | exact rfl | (refine qS ?_; constructor)))
        · refine Exists.intro _ (Exists.intro _ (Exists.intro _ (And.intro rfl ?_)))
          (repeat' first | (refine Owe.same ?_; first | refine Owe.o ?_ | refine Owe.mk ?_ ?_) | (refine Fork.same ?_; (first | refine fkD ?_ ?_ | refine fkN ?_ ?_ | refine fkM ?_ ?_) <;> intro h) | refine MvQ.stay ?_)
          rw [bad (fun ⟨v', h1, _, _, h4⟩ => by rw [bs_size] at h; omega)]
          (refine rqK rfl ?_; (repeat' first | exact rfl | (refine qS ?_; constructor)))
        · refine Exists.intro _ (Exists.intro _ (Exists.intro _ (And.intro rfl ?_)))
          (repeat' first | (refine Owe.same ?_; first | refine Owe.o ?_ | refine Owe.mk ?_ ?_) | (refine Fork.same ?_; (first | refine fkD ?_ ?_ | refine fkN ?_ ?_ | refine fkM ?_ ?_) <;> intro h) | refine MvQ.stay ?_)
          have hz : itoa v = p := by simpa [bs] using (‹(bs (itoa v)).data.toList = (bs p).data.toList›)
          have hnt := ntV_ok hv (by omega) hz (by rw [bs_size] at h; omega)
          refine again (acc ++ [v], r) [8] ⟨by simp at hlen ⊢; omega, dn ++ [p], by rw [hcut, cutG_hit hm]; simp, by rw [ntL_app hdn, hnt]⟩ (by simp; omega) ?_
          (refine qis ?_ ?_ <;> (repeat' first | exact rfl | (refine qS ?_; constructor)))
          · simp
          · refine CEq.str ?_
            have e : ((p.length : Int) + ((ByteArray.mk #[32]).size : Nat)).toNat = p.length + 1 := by rw [hs1]; omega
            rw [e]
            simp [bs]
      · obtain ⟨m, h88⟩ := C88e (fun v hv => hok ⟨v, hv⟩) (show p.length ≤ 1000000 by omega)
        have hbad := naE_bad (n := n) (hcut.trans (by rw [cutG_hit hm, List.nil_append])) (ntV_no (w := p) (fun ⟨v, hv, _⟩ => hok ⟨v, hv⟩))
        refine Ops.yd rfl rfl rfl rfl rfl ?_
        (repeat' first | (refine Owe.same ?_; first | refine Owe.o ?_ | refine Owe.mk ?_ ?_) | (refine Fork.same ?_; (first | refine fkD ?_ ?_ | refine fkN ?_ ?_ | refine fkM ?_ ?_) <;> intro h) | refine MvQ.stay ?_)
        refine And.intro rfl (Exists.intro _ (And.intro rfl ?_))
        (repeat' first | (refine Owe.same ?_; first | refine Owe.o ?_ | refine Owe.mk ?_ ?_) | (refine Fork.same ?_; (first | refine fkD ?_ ?_ | refine fkN ?_ ?_ | refine fkM ?_ ?_) <;> intro h) | ((first | refine OpsL.same ?_ | refine OpsDL.same ?_); first | refine pK h88 rfl rfl ?_) | refine MvQ.stay ?_)
        refine Exists.intro _ (Exists.intro _ (Exists.intro _ (And.intro rfl ?_)))
        (repeat' first | (refine Owe.same ?_; first | refine Owe.o ?_ | refine Owe.mk ?_ ?_) | (refine Fork.same ?_; (first | refine fkD ?_ ?_ | refine fkN ?_ ?_ | refine fkM ?_ ?_) <;> intro h) | refine MvQ.stay ?_)
        rw [hbad]
        (refine rqK rfl ?_; (repeat' first | exact rfl | (refine qS ?_; constructor)))
end Go.Pw

set_option linter.unusedSimpArgs false
set_option linter.unusedVariables false
set_option maxHeartbeats 1000000
namespace Go.Pw
open Go.RowKit Go.Lib
set_option maxRecDepth 2000
open Go Go.Proofs A1 A2 A3 A4
/-- All of what each of the pieces is. -/
def alL {α : Type} (f : By → Option α) : List By → Option (List α)
  | [] => some []
  | w :: r => match f w, alL f r with
    | some n, some l => some (n :: l)
    | _, _ => none
theorem alL_app {α : Type} {f : By → Option α} {w : By} : ∀ {l : List By} {a : List α}, alL f l = some a → alL f (l ++ [w]) = match f w with | some n => some (a ++ [n]) | none => none
  | [], a, h => by
    cases h
    cases hw : f w <;> simp [alL, hw]
  | x :: l, a, h => by
    rw [alL] at h
    rw [List.cons_append, alL]
    split at h
    · rename_i n m hn hm
      cases h
      rw [alL_app hm, hn]
      cases f w <;> simp
    · cases h
theorem alL_bad {α : Type} {f : By → Option α} {w : By} (hw : f w = none) : ∀ {l r : List By}, alL f (l ++ w :: r) = none
  | [], r => by rw [List.nil_append, alL, hw]
  | x :: l, r => by
    rw [List.cons_append, alL, alL_bad hw]
    cases f x <;> rfl
/-- So many naturals. -/
def ntN (s : By) (n : Int) : Option (List Int) := if (naE s n).2 = true then some (naE s n).1 else none
theorem C46y {s : By} {n : Int} {l : List Int} (h : ntN s n = some l) (hs : s.length ≤ 1000000) : PFD Tryz.prog 46 [sv s, vi .i64 n] (.tup [.c (ints l), vbl true]) := by
  unfold ntN at h
  split at h
  · rename_i h1
    injection h with h
    have := C46 (n := n) hs
    rw [h1, h] at this; exact this
  · cases h
theorem C46x {s : By} {n : Int} (h : ntN s n = none) (hs : s.length ≤ 1000000) : ∃ l, PFD Tryz.prog 46 [sv s, vi .i64 n] (.tup [.c (ints l), vbl false]) := by
  unfold ntN at h
  split at h
  · cases h
  · rename_i h1
    have := C46 (n := n) hs
    rw [show (naE s n).2 = false by simpa using h1] at this
    exact ⟨_, this⟩
theorem ntN_len {s : By} {n : Int} {l : List Int} (h : ntN s n = some l) : (l.length : Int) = n := by
  unfold ntN at h
  split at h
  · rename_i h1
    injection h with h
    subst h
    unfold naE at h1 ⊢
    cases hl : ntL (cutG 32 [] s) with
    | none => rw [hl] at h1; cases h1
    | some l => rw [hl] at h1; simpa using h1
  · cases h
/-- A device; devices; what comes of the string. -/
def dvP (p : By) : Option Tr3 := match ntN p 3 with
  | some [a, b, c] => some (a, b, c)
  | _ => none
theorem dvP_y {p : By} {a b c : Int} (h : dvP p = some (a, b, c)) : ntN p 3 = some [a, b, c] := by
  unfold dvP at h
  split at h
  · rename_i h1; cases h; exact h1
  · cases h
theorem dvP_n {p : By} (h : dvP p = none) : ntN p 3 = none := by
  unfold dvP at h
  split at h
  · cases h
  · rename_i h1
    cases hn : ntN p 3 with
    | none => rfl
    | some l =>
      have hl := ntN_len hn
      match l, hl, hn with
      | [a, b, c], _, hn => exact absurd hn (h1 a b c)
      | [], hl, _ => simp at hl
      | [_], hl, _ => simp at hl
      | [_, _], hl, _ => simp at hl
      | _ :: _ :: _ :: _ :: _, hl, _ => simp at hl; omega
def pdE (s : By) : List Tr3 × Int := match alL dvP (cutG 59 [] s) with
  | none => ([], 7)
  | some l => if (dvsE l).2 = 0 then (l, 0) else ([], (dvsE l).2)
theorem pdE_bad {s w : By} {dn rr : List By} (h : cutG 59 [] s = dn ++ w :: rr) (hw : dvP w = none) : pdE s = ([], 7) := by
  unfold pdE
  rw [h, alL_bad hw]
theorem pdE_good {s : By} {l : List Tr3} (h : alL dvP (cutG 59 [] s) = some l) : pdE s = if (dvsE l).2 = 0 then (l, 0) else ([], (dvsE l).2) := by
  unfold pdE
  rw [h]
theorem C12 {s : By} : s.length ≤ 60000 → PFD Tryz.prog 12 [sv s] (.tup [.c (trs (pdE s).1), vi .i64 (pdE s).2]) := fun hs => by
  have hz : (bs s).size = s.length := bs_size s
  refine pi2 fn12 ?_
  (repeat' first | (refine Owe.same ?_; first | refine Owe.o ?_ | refine Owe.mk ?_ ?_) | (refine Fork.same ?_; (first | refine fkD ?_ ?_ | refine fkN ?_ ?_ | refine fkM ?_ ?_) <;> intro h) | refine MvQ.stay ?_)
  · omega
  refine Ops.cs rfl rfl (CallS.of fn45 rfl ?_)
  (repeat' first | (refine Owe.same ?_; first | refine Owe.o ?_ | refine Owe.mk ?_ ?_) | (refine Fork.same ?_; (first | refine fkD ?_ ?_ | refine fkN ?_ ?_ | refine fkM ?_ ?_) <;> intro h) | refine MvQ.stay ?_)
  refine Ops.cs rfl rfl (CallS.of fn87 rfl ?_)
  (repeat' first | (refine Owe.same ?_; first | refine Owe.o ?_ | refine Owe.mk ?_ ?_) | (refine Fork.same ?_; (first | refine fkD ?_ ?_ | refine fkN ?_ ?_ | refine fkM ?_ ?_) <;> intro h) | refine MvQ.stay ?_)
  refine Sat.keep [2, 3, 4, 14] ?_
  refine Sat.rf rfl rfl (CallS.of fn122 rfl ?_)
  (repeat' first | (refine Owe.same ?_; first | refine Owe.o ?_ | refine Owe.mk ?_ ?_) | (refine Fork.same ?_; (first | refine fkD ?_ ?_ | refine fkN ?_ ?_ | refine fkM ?_ ?_) <;> intro h) | refine MvQ.stay ?_)
  · exact absurd h (by decide)
  refine Sat.nilB 2 0 90 3 (fun i => r3 (([] : List Tr3).getD i (0, 0, 0))) rfl rfl ?_
  refine Sat.lp (fun st : List Tr3 × By => ⟨[(0, .c (.yd 6)), (1, .c (.bp 4 0)), (2, .c (.bp 3 0)), (3, .c (.bp 5 0))],
      [(0, .box [.d (.v (.slice none 0 0))]), (1, .box [int 0]), (2, .box [.ms 7 st.1.length]), (3, .box [.d (svD st.2)]), (4, .box [.d (.v (.string ⟨#[59]⟩))]), (5, .box [int 0]),
       (6, .lp [(2, .c (.bp 0 0)), (3, .c (.bp 1 0)), (4, .c (.bp 2 0)), (14, .c (.fn 122 [4, 3, 5]))] .ready none (RR Tryz.prog 42 [15] ra12 rb12)), (7, rowv 90 3 r3 (0, 0, 0) st.1)], 8⟩)
    (fun st : List Tr3 × By => st.1.length + st.2.length ≤ 60000 ∧ ∃ dn, cutG 59 [] s = dn ++ cutG 59 [] st.2 ∧ alL dvP dn = some st.1) (fun st : List Tr3 × By => st.2.length) ([], s) [7] ⟨by simpa using hs, [], rfl, rfl⟩ ?_ ?_
  · (refine qis ?_ ?_ <;> (repeat' first | exact rfl | (refine qS ?_; constructor)))
  · rintro ⟨acc, rest⟩ ⟨hlen, dn, hcut, hdn⟩
    simp only at hlen hcut hdn
    rcases ix_cases 59 rest with ⟨hi, hm⟩ | ⟨p, r, rfl, hm, hi⟩
    · have h124 := C124 (l := rest) (c := 59)
      rw [hi] at h124
      (repeat' first | (refine Owe.same ?_; first | refine Owe.o ?_ | refine Owe.mk ?_ ?_) | (refine Fork.same ?_; (first | refine fkD ?_ ?_ | refine fkN ?_ ?_ | refine fkM ?_ ?_) <;> intro h) | ((first | refine OpsL.same ?_ | refine OpsDL.same ?_); first | refine pK h124 rfl rfl ?_) | refine MvQ.stay ?_)
      · refine OpsL.as 50 (sv rest) (.refl _) ?_
        cases hd : dvP rest with
        | none =>
          obtain ⟨l, h46⟩ := C46x (dvP_n hd) (show rest.length ≤ 1000000 by omega)
          rw [pdE_bad (rr := []) (hcut.trans (by rw [cutG_miss hm, List.nil_append])) hd]
          refine Ops.yd rfl rfl rfl rfl rfl ?_
          (repeat' first | (refine Owe.same ?_; first | refine Owe.o ?_ | refine Owe.mk ?_ ?_) | (refine Fork.same ?_; (first | refine fkD ?_ ?_ | refine fkN ?_ ?_ | refine fkM ?_ ?_) <;> intro h) | refine MvQ.stay ?_)
          refine And.intro rfl (Exists.intro _ (And.intro rfl ?_))
          (repeat' first | (refine Owe.same ?_; first | refine Owe.o ?_ | refine Owe.mk ?_ ?_) | (refine Fork.same ?_; (first | refine fkD ?_ ?_ | refine fkN ?_ ?_ | refine fkM ?_ ?_) <;> intro h) | ((first | refine OpsL.same ?_ | refine OpsDL.same ?_); first | refine pK h46 rfl rfl ?_) | refine MvQ.stay ?_)
          · refine Exists.intro _ (Exists.intro _ (Exists.intro _ (And.intro rfl ?_)))
            (repeat' first | (refine Owe.same ?_; first | refine Owe.o ?_ | refine Owe.mk ?_ ?_) | (refine Fork.same ?_; (first | refine fkD ?_ ?_ | refine fkN ?_ ?_ | refine fkM ?_ ?_) <;> intro h) | refine MvQ.stay ?_)
            (refine rqK rfl ?_; (repeat' first | exact rfl | (refine qS ?_; constructor)))
          · exact absurd h (by decide)
        | some d =>
          obtain ⟨a, b, c⟩ := d
          have h46 := C46y (dvP_y hd) (show rest.length ≤ 1000000 by omega)
          rw [pdE_good (l := acc ++ [(a, b, c)]) (by rw [hcut, cutG_miss hm, List.nil_append, alL_app hdn, hd])]
          have hlt : (acc ++ [(a, b, c)]).length ≤ 1000000 := by simp; omega
          have h47 := C47 hlt
          refine Ops.yd rfl rfl rfl rfl rfl ?_
          (repeat' first | (refine Owe.same ?_; first | refine Owe.o ?_ | refine Owe.mk ?_ ?_) | (refine Fork.same ?_; (first | refine fkD ?_ ?_ | refine fkN ?_ ?_ | refine fkM ?_ ?_) <;> intro h) | refine MvQ.stay ?_)
          refine And.intro rfl (Exists.intro _ (And.intro rfl ?_))
          (repeat' first | (refine Owe.same ?_; first | refine Owe.o ?_ | refine Owe.mk ?_ ?_) | (refine Fork.same ?_; (first | refine fkD ?_ ?_ | refine fkN ?_ ?_ | refine fkM ?_ ?_) <;> intro h) | ((first | refine OpsL.same ?_ | refine OpsDL.same ?_); first | refine pK h46 rfl rfl ?_) | refine MvQ.stay ?_)
          · exact absurd h (by decide)
          refine Exists.intro _ (Exists.intro _ (Exists.intro _ (And.intro rfl ?_)))
          (repeat' first | (refine Owe.same ?_; first | refine Owe.o ?_ | refine Owe.mk ?_ ?_) | (refine Fork.same ?_; (first | refine fkD ?_ ?_ | refine fkN ?_ ?_ | refine fkM ?_ ?_) <;> intro h) | refine MvQ.stay ?_)
          refine OpsL.frzX 2 0 9 rfl rfl rfl (Nat.le_refl _) ?_
          refine OpsL.frz 36 9 rfl rfl (Nat.le_refl _) ?_
          refine OpsL.as 36 (.c (trs (acc ++ [(a, b, c)]))) ?_ ?_
          · refine qv (qS ?_)
            constructor
            exact ⟨(a, b, c), rfl, rfl⟩
          by_cases h0 : (dvsE (acc ++ [(a, b, c)])).2 = 0
          · rw [if_pos h0]
            rw [h0] at h47
            (repeat' first | (refine Owe.same ?_; first | refine Owe.o ?_ | refine Owe.mk ?_ ?_) | (refine Fork.same ?_; (first | refine fkD ?_ ?_ | refine fkN ?_ ?_ | refine fkM ?_ ?_) <;> intro h) | ((first | refine OpsL.same ?_ | refine OpsDL.same ?_); first | refine pK h47 rfl rfl ?_) | refine MvQ.stay ?_)
            · exact absurd rfl h
            (refine rqK rfl ?_; (repeat' first | exact rfl | (refine qS ?_; constructor)))
            exact ⟨(a, b, c), rfl, rfl⟩
          · rw [if_neg h0]
            (repeat' first | (refine Owe.same ?_; first | refine Owe.o ?_ | refine Owe.mk ?_ ?_) | (refine Fork.same ?_; (first | refine fkD ?_ ?_ | refine fkN ?_ ?_ | refine fkM ?_ ?_) <;> intro h) | ((first | refine OpsL.same ?_ | refine OpsDL.same ?_); first | refine pK h47 rfl rfl ?_) | refine MvQ.stay ?_)
            · (refine rqK rfl ?_; (repeat' first | exact rfl | (refine qS ?_; constructor)))
            · exact absurd h h0
      · exact absurd (by decide) h
    · have h124 := C124 (l := p ++ 59 :: r) (c := 59)
      rw [hi] at h124
      have hsz : (bs (p ++ 59 :: r)).size = p.length + r.length + 1 := by rw [bs_size]; simp; omega
      have hs1 : (ByteArray.mk #[59]).size = 1 := rfl
      (repeat' first | (refine Owe.same ?_; first | refine Owe.o ?_ | refine Owe.mk ?_ ?_) | (refine Fork.same ?_; (first | refine fkD ?_ ?_ | refine fkN ?_ ?_ | refine fkM ?_ ?_) <;> intro h) | ((first | refine OpsL.same ?_ | refine OpsDL.same ?_); first | refine pK h124 rfl rfl ?_) | refine MvQ.stay ?_)
      · omega
      · rw [show (bs (acc, p ++ 59 :: r).snd).size = _ from hsz]
        have hlp : p.length + r.length ≤ 60000 := by simp at hlen; omega
        exact ob
      refine OpsL.as 40 (sv p) ?_ ?_
      · refine VEq.str ?_
        rw [cutB_bs]; simp
      have hlp : p.length + r.length ≤ 60000 := by simp at hlen; omega
      cases hd : dvP p with
      | none =>
        obtain ⟨l, h46⟩ := C46x (dvP_n hd) (show p.length ≤ 1000000 by omega)
        rw [pdE_bad (hcut.trans (by rw [cutG_hit hm, List.nil_append])) hd]
        refine Ops.yd rfl rfl rfl rfl rfl ?_
        (repeat' first | (refine Owe.same ?_; first | refine Owe.o ?_ | refine Owe.mk ?_ ?_) | (refine Fork.same ?_; (first | refine fkD ?_ ?_ | refine fkN ?_ ?_ | refine fkM ?_ ?_) <;> intro h) | refine MvQ.stay ?_)
        refine And.intro rfl (Exists.intro _ (And.intro rfl ?_))
        (repeat' first | (refine Owe.same ?_; first | refine Owe.o ?_ | refine Owe.mk ?_ ?_) | (refine Fork.same ?_; (first | refine fkD ?_ ?_ | refine fkN ?_ ?_ | refine fkM ?_ ?_) <;> intro h) | ((first | refine OpsL.same ?_ | refine OpsDL.same ?_); first | refine pK h46 rfl rfl ?_) | refine MvQ.stay ?_)
        · refine Exists.intro _ (Exists.intro _ (Exists.intro _ (And.intro rfl ?_)))
          (repeat' first | (refine Owe.same ?_; first | refine Owe.o ?_ | refine Owe.mk ?_ ?_) | (refine Fork.same ?_; (first | refine fkD ?_ ?_ | refine fkN ?_ ?_ | refine fkM ?_ ?_) <;> intro h) | refine MvQ.stay ?_)
          (refine rqK rfl ?_; (repeat' first | exact rfl | (refine qS ?_; constructor)))
        · exact absurd h (by decide)
      | some d =>
        obtain ⟨a, b, c⟩ := d
        have h46 := C46y (dvP_y hd) (show p.length ≤ 1000000 by omega)
        refine Ops.yd rfl rfl rfl rfl rfl ?_
        (repeat' first | (refine Owe.same ?_; first | refine Owe.o ?_ | refine Owe.mk ?_ ?_) | (refine Fork.same ?_; (first | refine fkD ?_ ?_ | refine fkN ?_ ?_ | refine fkM ?_ ?_) <;> intro h) | refine MvQ.stay ?_)
        refine And.intro rfl (Exists.intro _ (And.intro rfl ?_))
        (repeat' first | (refine Owe.same ?_; first | refine Owe.o ?_ | refine Owe.mk ?_ ?_) | (refine Fork.same ?_; (first | refine fkD ?_ ?_ | refine fkN ?_ ?_ | refine fkM ?_ ?_) <;> intro h) | ((first | refine OpsL.same ?_ | refine OpsDL.same ?_); first | refine pK h46 rfl rfl ?_) | refine MvQ.stay ?_)
        · exact absurd h (by decide)
        refine Exists.intro _ (Exists.intro _ (Exists.intro _ (And.intro rfl ?_)))
        (repeat' first | (refine Owe.same ?_; first | refine Owe.o ?_ | refine Owe.mk ?_ ?_) | (refine Fork.same ?_; (first | refine fkD ?_ ?_ | refine fkN ?_ ?_ | refine fkM ?_ ?_) <;> intro h) | refine MvQ.stay ?_)
        refine again (acc ++ [(a, b, c)], r) [9] ⟨by simp at hlen ⊢; omega, dn ++ [p], by rw [hcut, cutG_hit hm]; simp, by rw [alL_app hdn, hd]⟩ (by simp; omega) ?_
        (refine qis ?_ ?_ <;> (repeat' first | exact rfl | (refine qS ?_; constructor)))
        · simp
        · refine CEq.str ?_
          have e : ((p.length : Int) + ((ByteArray.mk #[59]).size : Nat)).toNat = p.length + 1 := by rw [hs1]; omega
          rw [e]
          simp [bs]
end Go.Pw

set_option linter.unusedSimpArgs false
set_option linter.unusedVariables false
set_option maxHeartbeats 1000000
set_option maxRecDepth 20000
namespace Go.Pw
open Go.RowKit Go.Lib
set_option maxRecDepth 2000
open Go Go.Proofs A1 A2 A3 A4
/-- Digits behind digits: of 0 none. -/
def dd0 (m : Int) : By := if m = 0 then [] else decDigits m.natAbs
theorem dd0_step {m : Int} (h : m ≠ 0) : dd0 m = dd0 (m.tdiv 10) ++ [UInt8.ofNat (48 + (m.tmod 10).natAbs)] := by
  have e1 : (m.tdiv 10).natAbs = m.natAbs / 10 := Int.natAbs_tdiv m 10
  have e2 : (m.tmod 10).natAbs = m.natAbs % 10 := Int.natAbs_tmod m 10
  rw [dd0, if_neg h, e2]
  by_cases h1 : m.natAbs < 10
  · have : m.tdiv 10 = 0 := by omega
    rw [this, dd0, if_pos rfl, decDigits_one h1, Nat.mod_eq_of_lt h1]; rfl
  · have : m.tdiv 10 ≠ 0 := by omega
    rw [dd0, if_neg this, e1, dec_big h1]
theorem u8w {x : Int} (h0 : 0 ≤ x) (h1 : x < 256) : IntKind.u8.wrap x = x := by
  have e : x % 256 = x := Int.emod_eq_of_lt h0 h1
  show (if (false && decide (x % 256 ≥ 2 ^ 7)) = true then x % 256 - 256 else x % 256) = x
  rw [Bool.false_and, if_neg (by decide), e]
theorem C93 {n : Int} : i64P n → PFD Tryz.prog 93 [vi .i64 n] (sv (itoa n)) := fun hn => by
  have hD : (decDigits n.natAbs).length ≤ 21 := by
    have := itoa_length_le n hn.1 hn.2
    by_cases h : n < 0
    · rw [itoa_neg h, List.length_cons] at this; omega
    · rw [itoa_nn (by omega), show n.toNat = n.natAbs by omega] at this; omega
  refine pi1 fn93 ?_
  (repeat' first | (refine Owe.same ?_; first | refine Owe.o ?_ | refine Owe.mk ?_ ?_) | (refine Fork.same ?_; (first | refine fkD ?_ ?_ | refine fkN ?_ ?_ | refine fkM ?_ ?_) <;> intro h) | refine MvQ.stay ?_)
  · (refine rqK rfl ?_; (repeat' first | exact rfl | (refine qS ?_; constructor)))
    refine VEq.str ?_
    rw [h, itoa_nn (by decide)]
    show _ = bs (decDigits 0)
    rw [dec0]
  · skip
    have hsg := h
    refine Sat.lp (fun st : Int × By => ⟨[(0, vi .i64 st.1), (3, sv st.2), (4, sv [45])], [], 0⟩)
      (fun st : Int × By => i64P st.1 ∧ dd0 st.1 ++ st.2 = decDigits n.natAbs) (fun st : Int × By => st.1.natAbs) (n, []) [] ⟨hn, by rw [dd0, if_neg (by omega), List.append_nil]⟩ ?_ ?_
    · (refine qis ?_ ?_ <;> (repeat' first | exact rfl | (refine qS ?_; constructor)))
    · rintro ⟨m, t⟩ ⟨hm, ht⟩
      simp only at hm ht
      have e2 : (m.tmod 10).natAbs = m.natAbs % 10 := Int.natAbs_tmod m 10
      have e1 : (m.tdiv 10).natAbs = m.natAbs / 10 := Int.natAbs_tdiv m 10
      have hb1 : -9 ≤ m.tmod 10 ∧ m.tmod 10 ≤ 9 := by omega
      have htl : t.length ≤ 21 := by
        have := congrArg List.length ht
        rw [List.length_append] at this; omega
      have hu : IntKind.u8.wrap (48 + max (m.tmod 10) (-m.tmod 10)) = 48 + max (m.tmod 10) (-m.tmod 10) := u8w (by omega) (by omega)
      have hs2 : (bs t).size = t.length := bs_size t
      have h133 := C133 (n := m.tmod 10) (by omega)
      (repeat' first | (refine Owe.same ?_; first | refine Owe.o ?_ | refine Owe.mk ?_ ?_) | (refine Fork.same ?_; (first | refine fkD ?_ ?_ | refine fkN ?_ ?_ | refine fkM ?_ ?_) <;> intro h) | ((first | refine OpsL.same ?_ | refine OpsDL.same ?_); first | refine pK h133 rfl rfl ?_) | refine MvQ.stay ?_)
      · rw [hu]
        refine ⟨⟨⟨⟨?_, trivial⟩, trivial⟩, ?_⟩, ?_⟩
        · exact ⟨by omega, by omega⟩
        · omega
        · show ((1 + (bs t).size : Nat) : Int) ≤ _
          omega
      · have h : ¬ m = 0 := h
        refine again (m.tdiv 10, UInt8.ofNat (48 + (m.tmod 10).natAbs) :: t) [] ⟨by constructor <;> omega, by rw [← ht, dd0_step h]; simp⟩ (by show (m.tdiv 10).natAbs < m.natAbs; omega) ?_
        (refine qis ?_ ?_ <;> (repeat' first | exact rfl | (refine qS ?_; constructor)))
        refine VEq.str ?_
        rw [hu, show (48 + max (m.tmod 10) (-m.tmod 10)).toNat = 48 + (m.tmod 10).natAbs by omega]
        simp [bs]
      · show (((bs ([45] : By)).size + (bs t).size : Nat) : Int) ≤ 9223372036854775807
        have h3 : (bs ([45] : By)).size ≤ 1 := by decide
        omega
      · have h : m = 0 := h
        subst h
        (refine rqK rfl ?_; (repeat' first | exact rfl | (refine qS ?_; constructor)))
        refine VEq.str ?_
        rw [dd0, if_pos rfl, List.nil_append] at ht
        subst ht
        rw [itoa_neg hsg]
        simp [bs]
  · have hsg := h
    refine Sat.lp (fun st : Int × By => ⟨[(0, vi .i64 st.1), (3, sv st.2), (4, sv [])], [], 0⟩)
      (fun st : Int × By => i64P st.1 ∧ dd0 st.1 ++ st.2 = decDigits n.natAbs) (fun st : Int × By => st.1.natAbs) (n, []) [] ⟨hn, by rw [dd0, if_neg (by omega), List.append_nil]⟩ ?_ ?_
    · (refine qis ?_ ?_ <;> (repeat' first | exact rfl | (refine qS ?_; constructor)))
    · rintro ⟨m, t⟩ ⟨hm, ht⟩
      simp only at hm ht
      have e2 : (m.tmod 10).natAbs = m.natAbs % 10 := Int.natAbs_tmod m 10
      have e1 : (m.tdiv 10).natAbs = m.natAbs / 10 := Int.natAbs_tdiv m 10
      have hb1 : -9 ≤ m.tmod 10 ∧ m.tmod 10 ≤ 9 := by omega
      have htl : t.length ≤ 21 := by
        have := congrArg List.length ht
        rw [List.length_append] at this; omega
      have hu : IntKind.u8.wrap (48 + max (m.tmod 10) (-m.tmod 10)) = 48 + max (m.tmod 10) (-m.tmod 10) := u8w (by omega) (by omega)
      have hs2 : (bs t).size = t.length := bs_size t
      have h133 := C133 (n := m.tmod 10) (by omega)
      (repeat' first | (refine Owe.same ?_; first | refine Owe.o ?_ | refine Owe.mk ?_ ?_) | (refine Fork.same ?_; (first | refine fkD ?_ ?_ | refine fkN ?_ ?_ | refine fkM ?_ ?_) <;> intro h) | ((first | refine OpsL.same ?_ | refine OpsDL.same ?_); first | refine pK h133 rfl rfl ?_) | refine MvQ.stay ?_)
      · rw [hu]
        refine ⟨⟨⟨⟨?_, trivial⟩, trivial⟩, ?_⟩, ?_⟩
        · exact ⟨by omega, by omega⟩
        · omega
        · show ((1 + (bs t).size : Nat) : Int) ≤ _
          omega
      · have h : ¬ m = 0 := h
        refine again (m.tdiv 10, UInt8.ofNat (48 + (m.tmod 10).natAbs) :: t) [] ⟨by constructor <;> omega, by rw [← ht, dd0_step h]; simp⟩ (by show (m.tdiv 10).natAbs < m.natAbs; omega) ?_
        (refine qis ?_ ?_ <;> (repeat' first | exact rfl | (refine qS ?_; constructor)))
        refine VEq.str ?_
        rw [hu, show (48 + max (m.tmod 10) (-m.tmod 10)).toNat = 48 + (m.tmod 10).natAbs by omega]
        simp [bs]
      · show (((bs ([] : By)).size + (bs t).size : Nat) : Int) ≤ 9223372036854775807
        have h3 : (bs ([] : By)).size ≤ 1 := by decide
        omega
      · have h : m = 0 := h
        subst h
        (refine rqK rfl ?_; (repeat' first | exact rfl | (refine qS ?_; constructor)))
        refine VEq.str ?_
        rw [dd0, if_pos rfl, List.nil_append] at ht
        subst ht
        rw [itoa_nn (by omega), show n.toNat = n.natAbs by omega]
        simp [bs]
/-- A fact that is kept out of sight. -/
structure Hd (p : Prop) : Prop where
  h : p
theorem wd_step {l : List Int} {k : Nat} (h : k < l.length) : wdS (l.take (k + 1)) = if k = 0 then itoa (l.getD k 0) else wdS (l.take k) ++ 32 :: itoa (l.getD k 0) := by
  rw [wdS, wdL, tk1 0 h, List.map_append]
  by_cases h0 : k = 0
  · subst h0; rw [if_pos rfl]; rfl
  · rw [if_neg h0]
    refine jn_app (l := (l.take k).map itoa) (fun e => ?_)
    have := congrArg List.length e
    rw [List.length_map, List.length_take, List.length_nil] at this; omega
theorem C52 {l : List Int} : (l.length ≤ 1000 ∧ ∀ n ∈ l, i64P n) → PFD Tryz.prog 52 [.c (ints l)] (sv (wdS l)) := fun ⟨hl, h⟩ => by
  refine pi1 fn52 ?_
  (repeat' first | (refine Owe.same ?_; first | refine Owe.o ?_ | refine Owe.mk ?_ ?_) | (refine Fork.same ?_; (first | refine fkD ?_ ?_ | refine fkN ?_ ?_ | refine fkM ?_ ?_) <;> intro h) | refine MvQ.stay ?_)
  refine Sat.lp (fun k : Nat => ⟨[(0, .c (ints l)), (3, sv (wdS (l.take k))), (4, vi .i64 k)], [], 0⟩)
    (fun k => k ≤ l.length) (fun k => l.length - k) 0 [] (Nat.zero_le _) ?_ ?_
  · (refine qis ?_ ?_ <;> (repeat' first | exact rfl | (refine qS ?_; constructor)))
  · intro k hk
    refine Fork.dec (fun hlt => ?_) (fun hlt => ?_)
    · have hlt : k < l.length := by omega
      have hi : i64P (l.getD (k : Int).toNat 0) := h _ (getD_mem 0 hlt)
      have h93 := C93 hi
      have hst := wd_step hlt
      have hz : (bs (wdS (l.take k))).size ≤ 22000 := by
        have := wd_len (l := l.take k) (fun n hn => h n (List.mem_of_mem_take hn))
        rw [bs_size]; rw [List.length_take] at this; omega
      have hz2 : (bs (itoa (l.getD (k : Int).toNat 0))).size ≤ 21 := by
        rw [bs_size]; exact itoa_length_le _ hi.1 hi.2
      have hs1 : (ByteArray.mk #[32]).size = 1 := rfl
      generalize hW : wdS (l.take k) = W at hst hz
      generalize hI : itoa (l.getD (k : Int).toNat 0) = I at h93 hz2
      have hI : itoa (l.getD k 0) = I := hI
      rw [hI] at hst
      have hst := Hd.mk hst
      have hI := Hd.mk hI
      have hW := Hd.mk hW
      have hlk := hlt
      have ho1 : (((bs W).size + (ByteArray.mk #[32]).size : Nat) : Int) ≤ 9223372036854775807 := by omega
      have ho2 : (((bs W).size + (bs I).size : Nat) : Int) ≤ 9223372036854775807 := by omega
      have ho3 : (((bs (W ++ [32])).size + (bs I).size : Nat) : Int) ≤ 9223372036854775807 := by
        have : (bs (W ++ [32])).size = (bs W).size + 1 := by rw [bs_size, bs_size]; simp
        omega
      (repeat' first | (refine Owe.same ?_; refine Owe.mk ?_ ?_) | (refine Fork.same ?_; (first | refine fkD ?_ ?_ | refine fkN ?_ ?_ | refine fkM ?_ ?_) <;> intro h) | ((first | refine OpsL.same ?_ | refine OpsDL.same ?_); first | refine oK h93 rfl rfl rfl ?_) | refine MvQ.stay ?_)
      · exact ho1
      · omega
      · exact ho3
      · clear hi ho1 ho2 ho3; exact ⟨by omega, by omega⟩
      · refine again (k + 1) [] hlt (by omega) ?_
        (refine qis ?_ ?_ <;> (repeat' first | exact rfl | (refine qS ?_; constructor)))
        refine VEq.str ?_
        rw [hst.h, if_neg (by omega)]
        simp [bs]
      · omega
      · exact ho2
      · clear hi ho1 ho2 ho3; exact ⟨by omega, by omega⟩
      · refine again (k + 1) [] hlt (by omega) ?_
        (refine qis ?_ ?_ <;> (repeat' first | exact rfl | (refine qS ?_; constructor)))
        refine VEq.str ?_
        have hk0 : k = 0 := by omega
        rw [hst.h, if_pos hk0]
        have hW := hW.h
        rw [hk0, List.take_zero] at hW
        subst hW
        rfl
    · have hk1 : k = l.length := by omega
      have hw : wdS (l.take k) = wdS l := by rw [List.take_of_length_le (by omega)]
      rw [hw]
      (repeat' first | (refine Owe.same ?_; first | refine Owe.o ?_ | refine Owe.mk ?_ ?_) | (refine Fork.same ?_; (first | refine fkD ?_ ?_ | refine fkN ?_ ?_ | refine fkM ?_ ?_) <;> intro h) | refine MvQ.stay ?_)
      (refine rqK rfl ?_; (repeat' first | exact rfl | (refine qS ?_; constructor)))
end Go.Pw

set_option linter.unusedSimpArgs false
set_option linter.unusedVariables false
set_option maxHeartbeats 1000000
namespace Go.Pw
open Go.RowKit Go.Lib
set_option maxRecDepth 2000
open Go Go.Proofs A1 A2 A3 A4
theorem drop_cons' {s : By} {k : Nat} (h : k < s.length) : s.drop k = s.getD k 0 :: s.drop (k + 1) := by
  rw [List.drop_eq_getElem_cons h, List.getD_eq_getElem?_getD, List.getElem?_eq_getElem h]; rfl
theorem C50 {s : By} {c : UInt8} : s.length ≤ 1000000 → PFD Tryz.prog 50 [sv s, vi .u8 c.toNat] (.c (sts (cutG c [] s))) := fun hs => by
  have hsz : (bs s).size = s.length := bs_size s
  refine pi1 fn50 ?_
  (repeat' first | (refine Owe.same ?_; first | refine Owe.o ?_ | refine Owe.mk ?_ ?_) | (refine Fork.same ?_; (first | refine fkD ?_ ?_ | refine fkN ?_ ?_ | refine fkM ?_ ?_) <;> intro h) | refine MvQ.stay ?_)
  refine Sat.nilS 5 9 1 (fun i => rS (([] : List By).getD i [])) rfl ?_
  refine Sat.lp (fun st : Nat × Nat × List By => ⟨[(0, sv s), (1, vi .u8 c.toNat), (5, .c (.ms 0 st.2.2.length)), (6, vi .i64 st.2.1), (7, vi .i64 st.1)], [(0, rowv 9 1 rS [] st.2.2)], 1⟩)
    (fun st : Nat × Nat × List By => (st.1 ≤ s.length ∧ st.2.1 ≤ st.1 ∧ st.2.2.length ≤ st.1) ∧ Hd (cutG c [] s = st.2.2 ++ cutG c ((s.take st.1).drop st.2.1) (s.drop st.1))) (fun st : Nat × Nat × List By => s.length - st.1) (0, 0, []) [0] ⟨by simp, ⟨by simp⟩⟩ ?_ ?_
  · (refine qis ?_ ?_ <;> (repeat' first | exact rfl | (refine qS ?_; constructor)))
  · rintro ⟨k, fr, out⟩ ⟨⟨hk, hfr, hout⟩, hc⟩
    simp only at hk hfr hout hc
    refine Fork.dec (fun hlt => ?_) (fun hlt => ?_)
    · have hlt : k < s.length := by have : (k : Int) < (bs s).size := hlt; omega
      have hcc := hc.h
      rw [drop_cons' hlt, cutG] at hcc
      (repeat' first | (refine Owe.same ?_; first | refine Owe.o ?_ | refine Owe.mk ?_ ?_) | (refine Fork.same ?_; (first | refine fkD ?_ ?_ | refine fkN ?_ ?_ | refine fkM ?_ ?_) <;> intro h) | refine MvQ.stay ?_)
      · have h : ((s.getD (k : Int).toNat 0).toNat : Int) = c.toNat := h
        have hx : s.getD k 0 = c := UInt8.toNat_inj.1 (by have h : ((s.getD k 0).toNat : Int) = c.toNat := h; omega)
        rw [if_pos hx] at hcc
        refine again (k + 1, k + 1, out ++ [(s.take k).drop fr]) [1] ⟨⟨hlt, Nat.le_refl _, by simp; omega⟩, ⟨by
          show cutG c [] s = (out ++ [(s.take k).drop fr]) ++ cutG c ((s.take (k + 1)).drop (k + 1)) (s.drop (k + 1))
          rw [List.drop_of_length_le (by rw [List.length_take]; omega : (s.take (k + 1)).length ≤ k + 1), hcc]; simp⟩⟩ (by show s.length - (k + 1) < s.length - k; omega) ?_
        (refine qis ?_ ?_ <;> (repeat' first | exact rfl | (refine qS ?_; constructor)))
        · simp
        · exact ⟨(s.take k).drop fr, congrArg (fun z => [D.v (.string z)]) cutB_bs, rfl⟩
      · have hx : ¬ s.getD k 0 = c := fun e => h (by show ((s.getD k 0).toNat : Int) = c.toNat; rw [e])
        rw [if_neg hx] at hcc
        refine again (k + 1, fr, out) [0] ⟨⟨hlt, by show fr ≤ k + 1; omega, by show out.length ≤ k + 1; omega⟩, ⟨by
          rw [hcc]
          have : ((s.take (k + 1)).drop fr) = (s.take k).drop fr ++ [s.getD k 0] := by
            rw [tk1 0 hlt, List.drop_append_of_le_length (by rw [List.length_take]; omega)]
          show _ = out ++ cutG c ((s.take (k + 1)).drop fr) (s.drop (k + 1))
          rw [this]⟩⟩ (by show s.length - (k + 1) < s.length - k; omega) ?_
        (refine qis ?_ ?_ <;> (repeat' first | exact rfl | (refine qS ?_; constructor)))
    · have hk1 : k = s.length := by have : ¬ (k : Int) < (bs s).size := hlt; omega
      subst hk1
      have hcc := hc.h
      rw [List.drop_length, List.take_length, cutG] at hcc
      (repeat' first | (refine Owe.same ?_; first | refine Owe.o ?_ | refine Owe.mk ?_ ?_) | (refine Fork.same ?_; (first | refine fkD ?_ ?_ | refine fkN ?_ ?_ | refine fkM ?_ ?_) <;> intro h) | refine MvQ.stay ?_)
      refine rqF 0 _ rfl rfl rfl ?_; (repeat' first | exact rfl | (refine qS ?_; constructor))
      exact ⟨s.drop fr, rfl, hcc⟩
end Go.Pw

set_option linter.unusedSimpArgs false
set_option linter.unusedVariables false
set_option maxHeartbeats 1000000
namespace Go.Pw
open Go.RowKit Go.Lib
set_option maxRecDepth 2000
open Go Go.Proofs A1 A2 A3 A4
theorem numV_pos {s : By} {d : Int} (h : s.head? ≠ some 45) : numV s d = if dgOk s d (s.length = 1) then some (dgV 0 s : Int) else none := by
  rw [numV, if_neg h]
theorem u8_ne {a b : UInt8} (h : a ≠ b) : (a.toNat : Int) ≠ b.toNat := fun e => h (UInt8.toNat_inj.1 (by omega))
theorem dg_tk {r : By} {k : Nat} {d : Int} (hd : d ≤ 18) (hk : (k : Int) ≤ d) (h : ∀ b ∈ r.take k, isDg b) : dgV 0 (r.take k) < 1000000000000000000 := by
  have h1 := dgV_lt (r.take k) 0 h
  have h2 := pow18 (k := (r.take k).length) hd (by rw [List.length_take]; omega)
  omega
theorem dg_step {r : By} {k : Nat} (h : k < r.length) : dgV 0 (r.take (k + 1)) = 10 * dgV 0 (r.take k) + ((r.getD k 0).toNat - 48) := by
  rw [tk1 0 h, dgV_app]
theorem C92 {s : By} {d : Int} : (s.length ≤ 1000000 ∧ d ≤ 18) → PFD Tryz.prog 92 [sv s, vi .i64 d] (.tup [vi .i64 ((numV s d).getD 0), vbl (numV s d).isSome]) := fun ⟨hs, hd⟩ => by
  cases s with
  | nil =>
    have e : numV [] d = none := by rw [numV_pos (by simp), if_neg (fun h => h.1 rfl)]
    have hsz : (bs []).size = 0 := rfl
    rw [e]
    refine pi2 fn92 ?_
    (repeat' first | (refine Owe.same ?_; first | refine Owe.o ?_ | refine Owe.mk ?_ ?_) | (refine Fork.same ?_; (first | refine fkY ?_ | refine fkF ?_ | ((first | refine fkD ?_ ?_ | refine fkN ?_ ?_ | refine fkM ?_ ?_) <;> intro h))) | ((first | refine OpsL.same ?_ | refine OpsDL.same ?_); first | refine oK C23 rfl rfl rfl ?_) | refine MvQ.stay ?_)
    (refine rqK rfl ?_; (repeat' first | exact rfl | (refine qS ?_; constructor)))
  | cons b r =>
    by_cases hb : b = 45
    · subst hb
      rw [numV_neg]
      have hz : (bs (45 :: r)).size = r.length + 1 := bs_size _
      have hrl : r.length + 1 ≤ 1000000 := hs
      have h0 : (((bs (45 :: r)).data.toList.getD (Int.toNat 0) 0).toNat : Int) = 45 := rfl
      by_cases hok : r ≠ [] ∧ (r.length : Int) ≤ d ∧ (r.head? = some 48 → False)
      · have hne : 0 < r.length := List.length_pos_iff.2 hok.1
        have hle := hok.2.1
        have h48 : ((bs (45 :: r)).data.toList.getD (Int.toNat 1) 0).toNat ≠ 48 := by
          obtain ⟨x, q, rfl⟩ : ∃ x q, r = x :: q := by cases r with | nil => exact absurd rfl hok.1 | cons x q => exact ⟨x, q, rfl⟩
          have hx : x ≠ 48 := fun e => hok.2.2 (by rw [e]; rfl)
          have := u8_ne hx
          show x.toNat ≠ 48
          have e48 : (48 : UInt8).toNat = 48 := rfl
          rw [e48] at this; omega
        have hRl : r.length = r.length := rfl
        refine pi2 fn92 ?_
        (repeat' first | (refine Owe.same ?_; first | refine Owe.o ?_ | refine Owe.mk ?_ ?_) | (refine Fork.same ?_; (first | refine fkY ?_ | refine fkF ?_ | ((first | refine fkD ?_ ?_ | refine fkN ?_ ?_ | refine fkM ?_ ?_) <;> intro h))) | ((first | refine OpsL.same ?_ | refine OpsDL.same ?_); first | refine oK C23 rfl rfl rfl ?_) | refine MvQ.stay ?_)
        refine Sat.lp (fun k : Nat => ⟨[(0, sv (45 :: r)), (6, vi .i64 1), (7, vi .i64 (dgV 0 (r.take k) : Int)), (8, vi .i64 (1 + (k : Int)))], [], 0⟩)
          (fun k => k ≤ r.length ∧ Hd (∀ x ∈ r.take k, isDg x)) (fun k => r.length - k) 0 [] ⟨Nat.zero_le _, ⟨by simp⟩⟩ ?_ ?_
        · (refine qis ?_ ?_ <;> (repeat' first | exact rfl | (refine qS ?_; constructor)))
        · rintro k ⟨hk, hdg⟩
          have hV := dg_tk (r := r) (k := k) hd (by omega) hdg.h
          refine Fork.dec (fun hlt => ?_) (fun hlt => ?_)
          · have hlt : k < r.length := by omega
            have hst := dg_step hlt
            have hx0 := (r.getD k 0).toNat_lt
            generalize hX : (r.getD k 0).toNat = X at hst hx0
            have hg : (bs (45 :: r)).data.toList.getD ((1 : Int) + (k : Int)).toNat 0 = r.getD k 0 := by
              rw [show ((1 : Int) + (k : Int)).toNat = k + 1 by omega]; rfl
            have hgX : (((bs (45 :: r)).data.toList.getD ((1 : Int) + (k : Int)).toNat 0).toNat : Int) = X := by rw [hg, hX]
            by_cases hdx : 48 ≤ X ∧ X ≤ 57
            · have hw8 : IntKind.u8.wrap (((bs (45 :: r)).data.toList.getD ((1 : Int) + (k : Int)).toNat 0).toNat - 48) = (X : Int) - 48 := by rw [hgX]; exact u8w (by omega) (by omega)
              have hdg1 : Hd (∀ x ∈ r.take (k + 1), isDg x) := ⟨fun x hb => by
                rw [tk1 0 hlt, List.mem_append, List.mem_singleton] at hb
                rcases hb with hb | hb
                · exact hdg.h x hb
                · subst hb; show 48 ≤ (r.getD k 0).toNat ∧ (r.getD k 0).toNat ≤ 57; rw [hX]; exact hdx⟩
              have hV1 := dg_tk (r := r) (k := k + 1) hd (by omega) hdg1.h
              rw [hst] at hV1
              (repeat' first | (refine Owe.same ?_; first | refine Owe.o ?_ | refine Owe.mk ?_ ?_) | (refine Fork.same ?_; (first | refine fkY ?_ | refine fkF ?_ | ((first | refine fkD ?_ ?_ | refine fkN ?_ ?_ | refine fkM ?_ ?_) <;> intro h))) | ((first | refine OpsL.same ?_ | refine OpsDL.same ?_); first | refine oK C23 rfl rfl rfl ?_) | refine MvQ.stay ?_)
              · rw [hw8]
                simp only [R64, and_true]
                omega
              · refine again (k + 1) [] ⟨hlt, hdg1⟩ (by omega) ?_
                (refine qis ?_ ?_ <;> (repeat' first | exact rfl | (refine qS ?_; constructor)))
                rw [hw8, hst]; omega
            · rw [if_neg (fun h => hdx (by have h3 := h.2.2.2 _ (getD_mem 0 hlt); rw [← hX]; exact h3))]
              (repeat' first | (refine Owe.same ?_; first | refine Owe.o ?_ | refine Owe.mk ?_ ?_) | (refine Fork.same ?_; (first | refine fkY ?_ | refine fkF ?_ | ((first | refine fkD ?_ ?_ | refine fkN ?_ ?_ | refine fkM ?_ ?_) <;> intro h))) | ((first | refine OpsL.same ?_ | refine OpsDL.same ?_); first | refine oK C23 rfl rfl rfl ?_) | refine MvQ.stay ?_)
              · (refine rqK rfl ?_; (repeat' first | exact rfl | (refine qS ?_; constructor)))
              · (refine rqK rfl ?_; (repeat' first | exact rfl | (refine qS ?_; constructor)))
          · have hk1 : k = r.length := by omega
            have htk : r.take k = r := by rw [hk1, List.take_length]
            have hdg := hdg.h
            rw [htk] at hV hdg
            rw [htk, if_pos ⟨hok.1, hok.2.1, hok.2.2, hdg⟩]
            (repeat' first | (refine Owe.same ?_; first | refine Owe.o ?_ | refine Owe.mk ?_ ?_) | (refine Fork.same ?_; (first | refine fkY ?_ | refine fkF ?_ | ((first | refine fkD ?_ ?_ | refine fkN ?_ ?_ | refine fkM ?_ ?_) <;> intro h))) | ((first | refine OpsL.same ?_ | refine OpsDL.same ?_); first | refine oK C23 rfl rfl rfl ?_) | refine MvQ.stay ?_)
            (refine rqK rfl ?_; (repeat' first | exact rfl | (refine qS ?_; constructor)))
      · rw [if_neg (fun h => hok ⟨h.1, h.2.1, h.2.2.1⟩)]
        by_cases h1 : r.length = 0
        · refine pi2 fn92 ?_
          (repeat' first | (refine Owe.same ?_; first | refine Owe.o ?_ | refine Owe.mk ?_ ?_) | (refine Fork.same ?_; (first | refine fkY ?_ | refine fkF ?_ | ((first | refine fkD ?_ ?_ | refine fkN ?_ ?_ | refine fkM ?_ ?_) <;> intro h))) | ((first | refine OpsL.same ?_ | refine OpsDL.same ?_); first | refine oK C23 rfl rfl rfl ?_) | refine MvQ.stay ?_)
          (refine rqK rfl ?_; (repeat' first | exact rfl | (refine qS ?_; constructor)))
        · by_cases h2 : d < (r.length : Int)
          · refine pi2 fn92 ?_
            (repeat' first | (refine Owe.same ?_; first | refine Owe.o ?_ | refine Owe.mk ?_ ?_) | (refine Fork.same ?_; (first | refine fkY ?_ | refine fkF ?_ | ((first | refine fkD ?_ ?_ | refine fkN ?_ ?_ | refine fkM ?_ ?_) <;> intro h))) | ((first | refine OpsL.same ?_ | refine OpsDL.same ?_); first | refine oK C23 rfl rfl rfl ?_) | refine MvQ.stay ?_)
            (refine rqK rfl ?_; (repeat' first | exact rfl | (refine qS ?_; constructor)))
          · obtain ⟨x, q, rfl⟩ : ∃ x q, r = x :: q := by cases r with | nil => exact absurd rfl h1 | cons x q => exact ⟨x, q, rfl⟩
            have hx : x = 48 := by
              refine Classical.byContradiction fun hx => hok ⟨by simp, by omega, fun e => hx (by simpa using e)⟩
            have h48 : ((bs (45 :: x :: q)).data.toList.getD (Int.toNat 1) 0).toNat = 48 := by rw [hx]; rfl
            refine pi2 fn92 ?_
            (repeat' first | (refine Owe.same ?_; first | refine Owe.o ?_ | refine Owe.mk ?_ ?_) | (refine Fork.same ?_; (first | refine fkY ?_ | refine fkF ?_ | ((first | refine fkD ?_ ?_ | refine fkN ?_ ?_ | refine fkM ?_ ?_) <;> intro h))) | ((first | refine OpsL.same ?_ | refine OpsDL.same ?_); first | refine oK C23 rfl rfl rfl ?_) | refine MvQ.stay ?_)
            (refine rqK rfl ?_; (repeat' first | exact rfl | (refine qS ?_; constructor)))
    · rw [numV_pos (fun e => hb (by simpa using e))]
      by_cases hb48 : b = 48
      · have hz : (bs (b :: r)).size = r.length + 1 := bs_size _
        have hrl : r.length + 1 ≤ 1000000 := hs
        have h0 : (((bs (b :: r)).data.toList.getD (Int.toNat 0) 0).toNat : Int) ≠ 45 := u8_ne hb
        by_cases hok : (b :: r) ≠ [] ∧ ((b :: r).length : Int) ≤ d ∧ ((b :: r).head? = some 48 → (b :: r).length = 1)
        · have hne : 0 < (b :: r).length := List.length_pos_iff.2 hok.1
          have hle := hok.2.1
          have h48 : ((bs (b :: r)).data.toList.getD (Int.toNat 0) 0).toNat = 48 ∧ r.length = 0 := by
            have := hok.2.2 (by rw [hb48]; rfl)
            exact ⟨by rw [hb48]; rfl, by simpa using this⟩
          have hRl : (b :: r).length = r.length + 1 := rfl
          refine pi2 fn92 ?_
          (repeat' first | (refine Owe.same ?_; first | refine Owe.o ?_ | refine Owe.mk ?_ ?_) | (refine Fork.same ?_; (first | refine fkY ?_ | refine fkF ?_ | ((first | refine fkD ?_ ?_ | refine fkN ?_ ?_ | refine fkM ?_ ?_) <;> intro h))) | ((first | refine OpsL.same ?_ | refine OpsDL.same ?_); first | refine oK C23 rfl rfl rfl ?_) | refine MvQ.stay ?_)
          refine Sat.lp (fun k : Nat => ⟨[(0, sv (b :: r)), (6, vi .i64 0), (7, vi .i64 (dgV 0 ((b :: r).take k) : Int)), (8, vi .i64 (0 + (k : Int)))], [], 0⟩)
            (fun k => k ≤ (b :: r).length ∧ Hd (∀ x ∈ (b :: r).take k, isDg x)) (fun k => (b :: r).length - k) 0 [] ⟨Nat.zero_le _, ⟨by simp⟩⟩ ?_ ?_
          · (refine qis ?_ ?_ <;> (repeat' first | exact rfl | (refine qS ?_; constructor)))
          · rintro k ⟨hk, hdg⟩
            have hV := dg_tk (r := (b :: r)) (k := k) hd (by omega) hdg.h
            refine Fork.dec (fun hlt => ?_) (fun hlt => ?_)
            · have hlt : k < (b :: r).length := by omega
              have hst := dg_step hlt
              have hx0 := ((b :: r).getD k 0).toNat_lt
              generalize hX : ((b :: r).getD k 0).toNat = X at hst hx0
              have hg : (bs (b :: r)).data.toList.getD ((0 : Int) + (k : Int)).toNat 0 = (b :: r).getD k 0 := by
                rw [show ((0 : Int) + (k : Int)).toNat = k + 0 by omega]; rfl
              have hgX : (((bs (b :: r)).data.toList.getD ((0 : Int) + (k : Int)).toNat 0).toNat : Int) = X := by rw [hg, hX]
              by_cases hdx : 48 ≤ X ∧ X ≤ 57
              · have hw8 : IntKind.u8.wrap (((bs (b :: r)).data.toList.getD ((0 : Int) + (k : Int)).toNat 0).toNat - 48) = (X : Int) - 48 := by rw [hgX]; exact u8w (by omega) (by omega)
                have hdg1 : Hd (∀ x ∈ (b :: r).take (k + 1), isDg x) := ⟨fun x hb => by
                  rw [tk1 0 hlt, List.mem_append, List.mem_singleton] at hb
                  rcases hb with hb | hb
                  · exact hdg.h x hb
                  · subst hb; show 48 ≤ ((b :: r).getD k 0).toNat ∧ ((b :: r).getD k 0).toNat ≤ 57; rw [hX]; exact hdx⟩
                have hV1 := dg_tk (r := (b :: r)) (k := k + 1) hd (by omega) hdg1.h
                rw [hst] at hV1
                (repeat' first | (refine Owe.same ?_; first | refine Owe.o ?_ | refine Owe.mk ?_ ?_) | (refine Fork.same ?_; (first | refine fkY ?_ | refine fkF ?_ | ((first | refine fkD ?_ ?_ | refine fkN ?_ ?_ | refine fkM ?_ ?_) <;> intro h))) | ((first | refine OpsL.same ?_ | refine OpsDL.same ?_); first | refine oK C23 rfl rfl rfl ?_) | refine MvQ.stay ?_)
                · rw [hw8]
                  simp only [R64, and_true]
                  omega
                · refine again (k + 1) [] ⟨hlt, hdg1⟩ (by omega) ?_
                  (refine qis ?_ ?_ <;> (repeat' first | exact rfl | (refine qS ?_; constructor)))
                  rw [hw8, hst]; omega
              · rw [if_neg (fun h => hdx (by have h3 := h.2.2.2 _ (getD_mem 0 hlt); rw [← hX]; exact h3))]
                (repeat' first | (refine Owe.same ?_; first | refine Owe.o ?_ | refine Owe.mk ?_ ?_) | (refine Fork.same ?_; (first | refine fkY ?_ | refine fkF ?_ | ((first | refine fkD ?_ ?_ | refine fkN ?_ ?_ | refine fkM ?_ ?_) <;> intro h))) | ((first | refine OpsL.same ?_ | refine OpsDL.same ?_); first | refine oK C23 rfl rfl rfl ?_) | refine MvQ.stay ?_)
                · (refine rqK rfl ?_; (repeat' first | exact rfl | (refine qS ?_; constructor)))
                · (refine rqK rfl ?_; (repeat' first | exact rfl | (refine qS ?_; constructor)))
            · have hk1 : k = (b :: r).length := by omega
              have htk : (b :: r).take k = (b :: r) := by rw [hk1, List.take_length]
              have hdg := hdg.h
              rw [htk] at hV hdg
              rw [htk, if_pos ⟨hok.1, hok.2.1, hok.2.2, hdg⟩]
              (repeat' first | (refine Owe.same ?_; first | refine Owe.o ?_ | refine Owe.mk ?_ ?_) | (refine Fork.same ?_; (first | refine fkY ?_ | refine fkF ?_ | ((first | refine fkD ?_ ?_ | refine fkN ?_ ?_ | refine fkM ?_ ?_) <;> intro h))) | ((first | refine OpsL.same ?_ | refine OpsDL.same ?_); first | refine oK C23 rfl rfl rfl ?_) | refine MvQ.stay ?_)
              (refine rqK rfl ?_; (repeat' first | exact rfl | (refine qS ?_; constructor)))
        · rw [if_neg (fun h => hok ⟨h.1, h.2.1, h.2.2.1⟩)]
          by_cases h2 : d < (r.length : Int) + 1
          · refine pi2 fn92 ?_
            (repeat' first | (refine Owe.same ?_; first | refine Owe.o ?_ | refine Owe.mk ?_ ?_) | (refine Fork.same ?_; (first | refine fkY ?_ | refine fkF ?_ | ((first | refine fkD ?_ ?_ | refine fkN ?_ ?_ | refine fkM ?_ ?_) <;> intro h))) | ((first | refine OpsL.same ?_ | refine OpsDL.same ?_); first | refine oK C23 rfl rfl rfl ?_) | refine MvQ.stay ?_)
            (refine rqK rfl ?_; (repeat' first | exact rfl | (refine qS ?_; constructor)))
          · have hx : b = 48 ∧ r.length ≠ 0 := by
              refine Classical.byContradiction fun hx => hok ⟨by simp, by rw [List.length_cons]; omega, fun e => ?_⟩
              have hb48 : b = 48 := by simpa using e
              refine Classical.byContradiction fun hl => hx ⟨hb48, fun e => hl (by rw [List.length_cons, e])⟩
            have h48 : ((bs (b :: r)).data.toList.getD (Int.toNat 0) 0).toNat = 48 := by rw [hx.1]; rfl
            have hx2 := hx.2
            refine pi2 fn92 ?_
            (repeat' first | (refine Owe.same ?_; first | refine Owe.o ?_ | refine Owe.mk ?_ ?_) | (refine Fork.same ?_; (first | refine fkY ?_ | refine fkF ?_ | ((first | refine fkD ?_ ?_ | refine fkN ?_ ?_ | refine fkM ?_ ?_) <;> intro h))) | ((first | refine OpsL.same ?_ | refine OpsDL.same ?_); first | refine oK C23 rfl rfl rfl ?_) | refine MvQ.stay ?_)
            (refine rqK rfl ?_; (repeat' first | exact rfl | (refine qS ?_; constructor)))
      · have hz : (bs (b :: r)).size = r.length + 1 := bs_size _
        have hrl : r.length + 1 ≤ 1000000 := hs
        have h0 : (((bs (b :: r)).data.toList.getD (Int.toNat 0) 0).toNat : Int) ≠ 45 := u8_ne hb
        by_cases hok : (b :: r) ≠ [] ∧ ((b :: r).length : Int) ≤ d ∧ ((b :: r).head? = some 48 → (b :: r).length = 1)
        · have hne : 0 < (b :: r).length := List.length_pos_iff.2 hok.1
          have hle := hok.2.1
          have h48 : (((bs (b :: r)).data.toList.getD (Int.toNat 0) 0).toNat : Int) ≠ 48 := u8_ne hb48
          have hRl : (b :: r).length = r.length + 1 := rfl
          refine pi2 fn92 ?_
          (repeat' first | (refine Owe.same ?_; first | refine Owe.o ?_ | refine Owe.mk ?_ ?_) | (refine Fork.same ?_; (first | refine fkY ?_ | refine fkF ?_ | ((first | refine fkD ?_ ?_ | refine fkN ?_ ?_ | refine fkM ?_ ?_) <;> intro h))) | ((first | refine OpsL.same ?_ | refine OpsDL.same ?_); first | refine oK C23 rfl rfl rfl ?_) | refine MvQ.stay ?_)
          refine Sat.lp (fun k : Nat => ⟨[(0, sv (b :: r)), (6, vi .i64 0), (7, vi .i64 (dgV 0 ((b :: r).take k) : Int)), (8, vi .i64 (0 + (k : Int)))], [], 0⟩)
            (fun k => k ≤ (b :: r).length ∧ Hd (∀ x ∈ (b :: r).take k, isDg x)) (fun k => (b :: r).length - k) 0 [] ⟨Nat.zero_le _, ⟨by simp⟩⟩ ?_ ?_
          · (refine qis ?_ ?_ <;> (repeat' first | exact rfl | (refine qS ?_; constructor)))
          · rintro k ⟨hk, hdg⟩
            have hV := dg_tk (r := (b :: r)) (k := k) hd (by omega) hdg.h
            refine Fork.dec (fun hlt => ?_) (fun hlt => ?_)
            · have hlt : k < (b :: r).length := by omega
              have hst := dg_step hlt
              have hx0 := ((b :: r).getD k 0).toNat_lt
              generalize hX : ((b :: r).getD k 0).toNat = X at hst hx0
              have hg : (bs (b :: r)).data.toList.getD ((0 : Int) + (k : Int)).toNat 0 = (b :: r).getD k 0 := by
                rw [show ((0 : Int) + (k : Int)).toNat = k + 0 by omega]; rfl
              have hgX : (((bs (b :: r)).data.toList.getD ((0 : Int) + (k : Int)).toNat 0).toNat : Int) = X := by rw [hg, hX]
              by_cases hdx : 48 ≤ X ∧ X ≤ 57
              · have hw8 : IntKind.u8.wrap (((bs (b :: r)).data.toList.getD ((0 : Int) + (k : Int)).toNat 0).toNat - 48) = (X : Int) - 48 := by rw [hgX]; exact u8w (by omega) (by omega)
                have hdg1 : Hd (∀ x ∈ (b :: r).take (k + 1), isDg x) := ⟨fun x hb => by
                  rw [tk1 0 hlt, List.mem_append, List.mem_singleton] at hb
                  rcases hb with hb | hb
                  · exact hdg.h x hb
                  · subst hb; show 48 ≤ ((b :: r).getD k 0).toNat ∧ ((b :: r).getD k 0).toNat ≤ 57; rw [hX]; exact hdx⟩
                have hV1 := dg_tk (r := (b :: r)) (k := k + 1) hd (by omega) hdg1.h
                rw [hst] at hV1
                (repeat' first | (refine Owe.same ?_; first | refine Owe.o ?_ | refine Owe.mk ?_ ?_) | (refine Fork.same ?_; (first | refine fkY ?_ | refine fkF ?_ | ((first | refine fkD ?_ ?_ | refine fkN ?_ ?_ | refine fkM ?_ ?_) <;> intro h))) | ((first | refine OpsL.same ?_ | refine OpsDL.same ?_); first | refine oK C23 rfl rfl rfl ?_) | refine MvQ.stay ?_)
                · rw [hw8]
                  simp only [R64, and_true]
                  omega
                · refine again (k + 1) [] ⟨hlt, hdg1⟩ (by omega) ?_
                  (refine qis ?_ ?_ <;> (repeat' first | exact rfl | (refine qS ?_; constructor)))
                  rw [hw8, hst]; omega
              · rw [if_neg (fun h => hdx (by have h3 := h.2.2.2 _ (getD_mem 0 hlt); rw [← hX]; exact h3))]
                (repeat' first | (refine Owe.same ?_; first | refine Owe.o ?_ | refine Owe.mk ?_ ?_) | (refine Fork.same ?_; (first | refine fkY ?_ | refine fkF ?_ | ((first | refine fkD ?_ ?_ | refine fkN ?_ ?_ | refine fkM ?_ ?_) <;> intro h))) | ((first | refine OpsL.same ?_ | refine OpsDL.same ?_); first | refine oK C23 rfl rfl rfl ?_) | refine MvQ.stay ?_)
                · (refine rqK rfl ?_; (repeat' first | exact rfl | (refine qS ?_; constructor)))
                · (refine rqK rfl ?_; (repeat' first | exact rfl | (refine qS ?_; constructor)))
            · have hk1 : k = (b :: r).length := by omega
              have htk : (b :: r).take k = (b :: r) := by rw [hk1, List.take_length]
              have hdg := hdg.h
              rw [htk] at hV hdg
              rw [htk, if_pos ⟨hok.1, hok.2.1, hok.2.2, hdg⟩]
              (repeat' first | (refine Owe.same ?_; first | refine Owe.o ?_ | refine Owe.mk ?_ ?_) | (refine Fork.same ?_; (first | refine fkY ?_ | refine fkF ?_ | ((first | refine fkD ?_ ?_ | refine fkN ?_ ?_ | refine fkM ?_ ?_) <;> intro h))) | ((first | refine OpsL.same ?_ | refine OpsDL.same ?_); first | refine oK C23 rfl rfl rfl ?_) | refine MvQ.stay ?_)
              (refine rqK rfl ?_; (repeat' first | exact rfl | (refine qS ?_; constructor)))
        · rw [if_neg (fun h => hok ⟨h.1, h.2.1, h.2.2.1⟩)]
          by_cases h2 : d < (r.length : Int) + 1
          · refine pi2 fn92 ?_
            (repeat' first | (refine Owe.same ?_; first | refine Owe.o ?_ | refine Owe.mk ?_ ?_) | (refine Fork.same ?_; (first | refine fkY ?_ | refine fkF ?_ | ((first | refine fkD ?_ ?_ | refine fkN ?_ ?_ | refine fkM ?_ ?_) <;> intro h))) | ((first | refine OpsL.same ?_ | refine OpsDL.same ?_); first | refine oK C23 rfl rfl rfl ?_) | refine MvQ.stay ?_)
            (refine rqK rfl ?_; (repeat' first | exact rfl | (refine qS ?_; constructor)))
          · have hx : b = 48 ∧ r.length ≠ 0 := by
              refine Classical.byContradiction fun hx => hok ⟨by simp, by rw [List.length_cons]; omega, fun e => ?_⟩
              have hb48 : b = 48 := by simpa using e
              refine Classical.byContradiction fun hl => hx ⟨hb48, fun e => hl (by rw [List.length_cons, e])⟩
            have h48 : ((bs (b :: r)).data.toList.getD (Int.toNat 0) 0).toNat = 48 := by rw [hx.1]; rfl
            have hx2 := hx.2
            refine pi2 fn92 ?_
            (repeat' first | (refine Owe.same ?_; first | refine Owe.o ?_ | refine Owe.mk ?_ ?_) | (refine Fork.same ?_; (first | refine fkY ?_ | refine fkF ?_ | ((first | refine fkD ?_ ?_ | refine fkN ?_ ?_ | refine fkM ?_ ?_) <;> intro h))) | ((first | refine OpsL.same ?_ | refine OpsDL.same ?_); first | refine oK C23 rfl rfl rfl ?_) | refine MvQ.stay ?_)
            (refine rqK rfl ?_; (repeat' first | exact rfl | (refine qS ?_; constructor)))
end Go.Pw

set_option linter.unusedSimpArgs false
set_option linter.unusedVariables false
set_option maxHeartbeats 1000000
namespace Go.Pw
open Go.RowKit Go.Lib
set_option maxRecDepth 2000
open Go Go.Proofs A1 A2 A3 A4
theorem cut_len {c : UInt8} : ∀ {l acc : By}, ∀ x ∈ cutG c acc l, x.length ≤ acc.length + l.length
  | [], acc, x, hx => by rw [cutG, List.mem_singleton] at hx; subst hx; simp
  | y :: l, acc, x, hx => by
    rw [cutG] at hx
    split at hx
    · rcases List.mem_cons.1 hx with h1 | h1
      · subst h1; simp
      · have := cut_len x h1; simp at this ⊢; omega
    · have := cut_len x hx; simp at this ⊢; omega
theorem cut_count {c : UInt8} : ∀ {l acc : By}, (cutG c acc l).length ≤ l.length + 1
  | [], acc => by simp [cutG]
  | y :: l, acc => by
    rw [cutG]; split
    · have := cut_count (c := c) (l := l) (acc := []); simp; omega
    · have := cut_count (c := c) (l := l) (acc := acc ++ [y]); simp; omega
theorem ntL_len : ∀ {l : List By} {a : List Int}, ntL l = some a → a.length = l.length
  | [], a, h => by cases h; rfl
  | x :: l, a, h => by
    rw [ntL] at h
    split at h
    · rename_i n m hn hm
      cases h
      rw [List.length_cons, List.length_cons, ntL_len hm]
    · cases h
theorem ntN_of {s : By} {n : Int} {l : List Int} (h : ntL (cutG 32 [] s) = some l) (hl : ((cutG 32 [] s).length : Int) = n) : ntN s n = some l := by
  unfold ntN
  rw [naE_good h, ntL_len h, hl]; simp
theorem ntN_none {s : By} {n : Int} (h : ntL (cutG 32 [] s) = none) : ntN s n = none := by
  unfold ntN naE
  rw [h]; simp
theorem ntN_count {s : By} {n : Int} (h : ((cutG 32 [] s).length : Int) ≠ n) : ntN s n = none := by
  unfold ntN naE
  cases hn : ntL (cutG 32 [] s) with
  | none => simp
  | some l =>
    have := ntL_len hn
    rw [if_neg]
    simp only [decide_eq_true_eq]
    omega
theorem ntL_take {l : List By} {k : Nat} (hk : k < l.length) (h : ntV (l.getD k []) = none) : ntL l = none := by
  have e : l = l.take k ++ l.getD k [] :: l.drop (k + 1) := by
    rw [List.getD_eq_getElem?_getD, List.getElem?_eq_getElem hk]
    exact (List.take_append_drop k l).symm.trans (by rw [List.drop_eq_getElem_cons hk]; rfl)
  rw [e]; exact ntL_bad h
theorem C92y {s : By} {d v : Int} (h : numV s d = some v) (hs : s.length ≤ 1000000 ∧ d ≤ 18) : PFD Tryz.prog 92 [sv s, vi .i64 d] (.tup [vi .i64 v, vbl true]) := by
  have := C92 hs; rw [h] at this; exact this
theorem C92n {s : By} {d : Int} (h : numV s d = none) (hs : s.length ≤ 1000000 ∧ d ≤ 18) : PFD Tryz.prog 92 [sv s, vi .i64 d] (.tup [vi .i64 0, vbl false]) := by
  have := C92 hs; rw [h] at this; exact this
theorem C51 {s : By} {n : Int} : s.length ≤ 100000 → PFD Tryz.prog 51 [sv s, vi .i64 n] (.tup [.c (ints ((ntN s n).getD [])), vbl (ntN s n).isSome]) := fun hs => by
  have h50 := C50 (s := s) (c := 32) (by omega)
  have hPl := cut_count (c := 32) (l := s) (acc := [])
  have hPx : ∀ x ∈ cutG 32 [] s, x.length ≤ 1000000 := fun x hx => by have := cut_len x hx; simp at this; omega
  by_cases hn : ((cutG 32 [] s).length : Int) = n
  · have hPn : Hd (ntL (cutG 32 [] s) = none → ntN s n = none) := ⟨ntN_none⟩
    have hPs : Hd (∀ l, ntL (cutG 32 [] s) = some l → ntN s n = some l) := ⟨fun l h => ntN_of h hn⟩
    generalize cutG 32 [] s = P at *
    refine pi2 fn51 ?_
    (repeat' first | (refine Owe.same ?_; first | refine Owe.o ?_ | refine Owe.mk ?_ ?_) | (refine Fork.same ?_; (first | refine fkY ?_ | refine fkF ?_ | ((first | refine fkD ?_ ?_ | refine fkN ?_ ?_ | refine fkM ?_ ?_) <;> intro h))) | ((first | refine OpsL.same ?_ | refine OpsDL.same ?_); first | refine oK h50 rfl rfl rfl ?_) | refine MvQ.stay ?_)
    refine Sat.nilS 7 3 1 (fun i => r1 (([] : List Int).getD i 0)) rfl ?_
    refine Sat.lp (fun st : Nat × List Int => ⟨[(6, .c (sts P)), (7, .c (.ms 0 st.2.length)), (8, vi .i64 st.1)], [(0, rowv 3 1 r1 0 st.2)], 1⟩)
      (fun st : Nat × List Int => (st.1 ≤ P.length ∧ st.2.length = st.1) ∧ Hd (ntL (P.take st.1) = some st.2)) (fun st : Nat × List Int => P.length - st.1) (0, []) [0] ⟨by simp, ⟨rfl⟩⟩ ?_ ?_
    · (refine qis ?_ ?_ <;> (repeat' first | exact rfl | (refine qS ?_; constructor)))
    · rintro ⟨k, acc⟩ ⟨⟨hk, hal⟩, ha⟩
      simp only at hk hal ha
      refine Fork.dec (fun hlt => ?_) (fun hlt => ?_)
      · have hlt : k < P.length := by have : (k : Int) < P.length := hlt; omega
        have hpl := hPx _ (getD_mem [] hlt)
        cases hN : numV (P.getD k []) 3 with
        | none =>
          have h92 := C92n (s := P.getD (k : Int).toNat []) (d := 3) hN ⟨hpl, by decide⟩
          rw [hPn.h (ntL_take hlt (by unfold ntV; rw [hN]))]
          (repeat' first | (refine Owe.same ?_; first | refine Owe.o ?_ | refine Owe.mk ?_ ?_) | (refine Fork.same ?_; (first | refine fkY ?_ | refine fkF ?_ | ((first | refine fkD ?_ ?_ | refine fkN ?_ ?_ | refine fkM ?_ ?_) <;> intro h))) | ((first | refine OpsL.same ?_ | refine OpsDL.same ?_); first | refine oK h92 rfl rfl rfl ?_) | refine MvQ.stay ?_)
          (refine rqK rfl ?_; (repeat' first | exact rfl | (refine qS ?_; constructor)))
        | some v =>
          have h92 := C92y (s := P.getD (k : Int).toNat []) (d := 3) hN ⟨hpl, by decide⟩
          by_cases hv : v < 0
          · rw [hPn.h (ntL_take hlt (by unfold ntV; rw [hN]; simp; omega))]
            (repeat' first | (refine Owe.same ?_; first | refine Owe.o ?_ | refine Owe.mk ?_ ?_) | (refine Fork.same ?_; (first | refine fkY ?_ | refine fkF ?_ | ((first | refine fkD ?_ ?_ | refine fkN ?_ ?_ | refine fkM ?_ ?_) <;> intro h))) | ((first | refine OpsL.same ?_ | refine OpsDL.same ?_); first | refine oK h92 rfl rfl rfl ?_) | refine MvQ.stay ?_)
            (refine rqK rfl ?_; (repeat' first | exact rfl | (refine qS ?_; constructor)))
          · have hn1 : ntL (P.take (k + 1)) = some (acc ++ [v]) := by
              rw [tk1 [] hlt, ntL_app ha.h]
              unfold ntV; rw [hN]
              have : 0 ≤ v := by omega
              simp [this]
            have hn1 := Hd.mk hn1
            (repeat' first | (refine Owe.same ?_; first | refine Owe.o ?_ | refine Owe.mk ?_ ?_) | (refine Fork.same ?_; (first | refine fkY ?_ | refine fkF ?_ | ((first | refine fkD ?_ ?_ | refine fkN ?_ ?_ | refine fkM ?_ ?_) <;> intro h))) | ((first | refine OpsL.same ?_ | refine OpsDL.same ?_); first | refine oK h92 rfl rfl rfl ?_) | refine MvQ.stay ?_)
            refine again (k + 1, acc ++ [v]) [1] ⟨⟨hlt, by simp; omega⟩, hn1⟩ (by show P.length - (k + 1) < P.length - k; omega) ?_
            (refine qis ?_ ?_ <;> (repeat' first | exact rfl | (refine qS ?_; constructor)))
            simp
      · have hk1 : k = P.length := by have : ¬ (k : Int) < P.length := hlt; omega
        have ha := ha.h
        rw [hk1, List.take_length] at ha
        rw [hPs.h _ ha]
        (repeat' first | (refine Owe.same ?_; first | refine Owe.o ?_ | refine Owe.mk ?_ ?_) | (refine Fork.same ?_; (first | refine fkY ?_ | refine fkF ?_ | ((first | refine fkD ?_ ?_ | refine fkN ?_ ?_ | refine fkM ?_ ?_) <;> intro h))) | ((first | refine OpsL.same ?_ | refine OpsDL.same ?_); first | refine oK C23 rfl rfl rfl ?_) | refine MvQ.stay ?_)
        refine rqF 0 _ rfl rfl rfl ?_; (repeat' first | exact rfl | (refine qS ?_; constructor))
  · rw [ntN_count hn]
    generalize cutG 32 [] s = P at *
    refine pi2 fn51 ?_
    (repeat' first | (refine Owe.same ?_; first | refine Owe.o ?_ | refine Owe.mk ?_ ?_) | (refine Fork.same ?_; (first | refine fkY ?_ | refine fkF ?_ | ((first | refine fkD ?_ ?_ | refine fkN ?_ ?_ | refine fkM ?_ ?_) <;> intro h))) | ((first | refine OpsL.same ?_ | refine OpsDL.same ?_); first | refine oK h50 rfl rfl rfl ?_) | refine MvQ.stay ?_)
    (refine rqK rfl ?_; (repeat' first | exact rfl | (refine qS ?_; constructor)))
end Go.Pw

set_option linter.unusedSimpArgs false
set_option linter.unusedVariables false
set_option maxHeartbeats 1000000
namespace Go.Pw
open Go.RowKit Go.Lib
set_option maxRecDepth 2000
open Go Go.Proofs A1 A2 A3 A4
theorem C51y {s : By} {n : Int} {l : List Int} (h : ntN s n = some l) (hs : s.length ≤ 100000) : PFD Tryz.prog 51 [sv s, vi .i64 n] (.tup [.c (ints l), vbl true]) := by
  have := C51 (n := n) hs; rw [h] at this; exact this
theorem C51n {s : By} {n : Int} (h : ntN s n = none) (hs : s.length ≤ 100000) : PFD Tryz.prog 51 [sv s, vi .i64 n] (.tup [.c (ints []), vbl false]) := by
  have := C51 (n := n) hs; rw [h] at this; exact this
theorem alL_take {α : Type} {f : By → Option α} {l : List By} {k : Nat} (hk : k < l.length) (h : f (l.getD k []) = none) : alL f l = none := by
  have e : l = l.take k ++ l.getD k [] :: l.drop (k + 1) := by
    rw [List.getD_eq_getElem?_getD, List.getElem?_eq_getElem hk]
    exact (List.take_append_drop k l).symm.trans (by rw [List.drop_eq_getElem_cons hk]; rfl)
  rw [e]; exact alL_bad h
theorem pdE_none {s : By} (h : alL dvP (cutG 59 [] s) = none) : pdE s = ([], 7) := by
  unfold pdE; rw [h]
theorem C14 {s : By} : s.length ≤ 60000 → PFD Tryz.prog 14 [sv s] (.tup [.c (trs (pdE s).1), vi .i64 (pdE s).2]) := fun hs => by
  have hz : (bs s).size = s.length := bs_size s
  have h50 := C50 (s := s) (c := 59) (by omega)
  have hPl := cut_count (c := 59) (l := s) (acc := [])
  have hPx : Hd (∀ x ∈ cutG 59 [] s, x.length ≤ 60000) := ⟨fun x hx => by have := cut_len x hx; simp at this; omega⟩
  have hPn : Hd (alL dvP (cutG 59 [] s) = none → pdE s = ([], 7)) := ⟨pdE_none⟩
  have hPs : Hd (∀ l, alL dvP (cutG 59 [] s) = some l → pdE s = if (dvsE l).2 = 0 then (l, 0) else ([], (dvsE l).2)) := ⟨fun l h => pdE_good h⟩
  generalize cutG 59 [] s = P at *
  refine pi2 fn14 ?_
  (repeat' first | (refine Owe.same ?_; first | refine Owe.o ?_ | refine Owe.mk ?_ ?_) | (refine Fork.same ?_; (first | refine fkY ?_ | refine fkF ?_ | ((first | refine fkD ?_ ?_ | refine fkN ?_ ?_ | refine fkM ?_ ?_) <;> intro h))) | ((first | refine OpsL.same ?_ | refine OpsDL.same ?_); first | refine oK h50 rfl rfl rfl ?_) | refine MvQ.stay ?_)
  refine Sat.nilS 5 90 3 (fun i => r3 (([] : List Tr3).getD i (0, 0, 0))) rfl ?_
  refine Sat.lp (fun st : Nat × List Tr3 => ⟨[(4, .c (sts P)), (5, .c (.ms 0 st.2.length)), (6, vi .i64 st.1)], [(0, rowv 90 3 r3 (0, 0, 0) st.2)], 1⟩)
    (fun st : Nat × List Tr3 => (st.1 ≤ P.length ∧ st.2.length = st.1) ∧ Hd (alL dvP (P.take st.1) = some st.2)) (fun st : Nat × List Tr3 => P.length - st.1) (0, []) [0] ⟨by simp, ⟨rfl⟩⟩ ?_ ?_
  · (refine qis ?_ ?_ <;> (repeat' first | exact rfl | (refine qS ?_; constructor)))
  · rintro ⟨k, acc⟩ ⟨⟨hk, hal⟩, ha⟩
    simp only at hk hal ha
    refine Fork.dec (fun hlt => ?_) (fun hlt => ?_)
    · have hlt : k < P.length := by have : (k : Int) < P.length := hlt; omega
      have hpl := hPx.h _ (getD_mem [] hlt)
      cases hd : dvP (P.getD k []) with
      | none =>
        have h51 := C51n (s := P.getD (k : Int).toNat []) (dvP_n hd) (by exact Nat.le_trans hpl (by decide))
        rw [hPn.h (alL_take hlt hd)]
        (repeat' first | (refine Owe.same ?_; first | refine Owe.o ?_ | refine Owe.mk ?_ ?_) | (refine Fork.same ?_; (first | refine fkY ?_ | refine fkF ?_ | ((first | refine fkD ?_ ?_ | refine fkN ?_ ?_ | refine fkM ?_ ?_) <;> intro h))) | ((first | refine OpsL.same ?_ | refine OpsDL.same ?_); first | refine oK h51 rfl rfl rfl ?_) | refine MvQ.stay ?_)
        (refine rqK rfl ?_; (repeat' first | exact rfl | (refine qS ?_; constructor)))
      | some d =>
        obtain ⟨a, b, c⟩ := d
        have h51 := C51y (s := P.getD (k : Int).toNat []) (dvP_y hd) (by exact Nat.le_trans hpl (by decide))
        have hn1 : Hd (alL dvP (P.take (k + 1)) = some (acc ++ [(a, b, c)])) := ⟨by rw [tk1 [] hlt, alL_app ha.h, hd]⟩
        have hd := Hd.mk hd
        (repeat' first | (refine Owe.same ?_; first | refine Owe.o ?_ | refine Owe.mk ?_ ?_) | (refine Fork.same ?_; (first | refine fkY ?_ | refine fkF ?_ | ((first | refine fkD ?_ ?_ | refine fkN ?_ ?_ | refine fkM ?_ ?_) <;> intro h))) | ((first | refine OpsL.same ?_ | refine OpsDL.same ?_); first | refine oK h51 rfl rfl rfl ?_) | refine MvQ.stay ?_)
        refine again (k + 1, acc ++ [(a, b, c)]) [13] ⟨⟨hlt, by simp; omega⟩, hn1⟩ (by show P.length - (k + 1) < P.length - k; omega) ?_
        (refine qis ?_ ?_ <;> (repeat' first | exact rfl | (refine qS ?_; constructor)))
        simp
    · have hk1 : k = P.length := by have : ¬ (k : Int) < P.length := hlt; omega
      have ha := ha.h
      rw [hk1, List.take_length] at ha
      rw [hPs.h _ ha]
      have h20 := C20 (l := acc)
      by_cases h0 : (dvsE acc).2 = 0
      · rw [if_pos h0]
        rw [h0] at h20
        (repeat' first | (refine Owe.same ?_; first | refine Owe.o ?_ | refine Owe.mk ?_ ?_) | (refine Fork.same ?_; (first | refine fkD ?_ ?_ | refine fkN ?_ ?_ | refine fkM ?_ ?_) <;> intro h))
        refine MvQ.frz 5 _ rfl rfl (Nat.le_refl _) ?_
        (repeat' first | (refine Owe.same ?_; first | refine Owe.o ?_ | refine Owe.mk ?_ ?_) | (refine Fork.same ?_; (first | refine fkY ?_ | refine fkF ?_ | ((first | refine fkD ?_ ?_ | refine fkN ?_ ?_ | refine fkM ?_ ?_) <;> intro h))) | ((first | refine OpsL.same ?_ | refine OpsDL.same ?_); first | refine oK h20 rfl rfl rfl ?_) | refine MvQ.stay ?_)
        (refine rqK rfl ?_; (repeat' first | exact rfl | (refine qS ?_; constructor)))
      · rw [if_neg h0]
        (repeat' first | (refine Owe.same ?_; first | refine Owe.o ?_ | refine Owe.mk ?_ ?_) | (refine Fork.same ?_; (first | refine fkD ?_ ?_ | refine fkN ?_ ?_ | refine fkM ?_ ?_) <;> intro h))
        refine MvQ.frz 5 _ rfl rfl (Nat.le_refl _) ?_
        (repeat' first | (refine Owe.same ?_; first | refine Owe.o ?_ | refine Owe.mk ?_ ?_) | (refine Fork.same ?_; (first | refine fkY ?_ | refine fkF ?_ | ((first | refine fkD ?_ ?_ | refine fkN ?_ ?_ | refine fkM ?_ ?_) <;> intro h))) | ((first | refine OpsL.same ?_ | refine OpsDL.same ?_); first | refine oK h20 rfl rfl rfl ?_) | refine MvQ.stay ?_)
        (refine rqK rfl ?_; (repeat' first | exact rfl | (refine qS ?_; constructor)))
theorem C52_3 {a b c : Int} (h1 : i64P a) (h2 : i64P b) (h3 : i64P c) : PFD Tryz.prog 52 [.c (ints [a, b, c])] (sv (wdS [a, b, c])) := C52 ⟨by simp, i64_3 h1 h2 h3⟩
theorem dv_step {l : List Tr3} {k : Nat} (h : k < l.length) : dvS (l.take (k + 1)) = if k = 0 then dvW (l.getD k (0, 0, 0)) else dvS (l.take k) ++ 59 :: dvW (l.getD k (0, 0, 0)) := by
  rw [dvS, tk1 (0, 0, 0) h, List.map_append]
  by_cases h0 : k = 0
  · subst h0; rw [if_pos rfl]; rfl
  · rw [if_neg h0]
    refine jn_app (l := (l.take k).map dvW) (fun e => ?_)
    have := congrArg List.length e
    rw [List.length_map, List.length_take, List.length_nil] at this; omega
theorem C16 {l : List Tr3} : (l.length ≤ 1000 ∧ ∀ d ∈ l, w64P d) → PFD Tryz.prog 16 [.c (trs l)] (sv (dvS l)) := fun ⟨hl, h⟩ => by
  have h := Hd.mk h
  refine pi1 fn16 ?_
  (repeat' first | (refine Owe.same ?_; first | refine Owe.o ?_ | refine Owe.mk ?_ ?_) | (refine Fork.same ?_; (first | refine fkD ?_ ?_ | refine fkN ?_ ?_ | refine fkM ?_ ?_) <;> intro h) | refine MvQ.stay ?_)
  refine Sat.lp (fun k : Nat => ⟨[(0, .c (trs l)), (3, sv (dvS (l.take k))), (4, vi .i64 k)], [], 0⟩)
    (fun k => k ≤ l.length) (fun k => l.length - k) 0 [] (Nat.zero_le _) ?_ ?_
  · (refine qis ?_ ?_ <;> (repeat' first | exact rfl | (refine qS ?_; constructor)))
  · intro k hk
    refine Fork.dec (fun hlt => ?_) (fun hlt => ?_)
    · have hlt : k < l.length := by omega
      have hi : w64P (l.getD (k : Int).toNat (0, 0, 0)) := h.h _ (getD_mem (0, 0, 0) hlt)
      have h52 := C52_3 hi.1 hi.2.1 hi.2.2
      have hst := dv_step hlt
      have hz : (bs (dvS (l.take k))).size ≤ 67000 := by
        have := dv_len (l := l.take k) (fun n hn => h.h n (List.mem_of_mem_take hn))
        rw [bs_size]; rw [List.length_take] at this; omega
      have hz2 : (bs (wdS [(l.getD (k : Int).toNat (0, 0, 0)).1, (l.getD (k : Int).toNat (0, 0, 0)).2.1, (l.getD (k : Int).toNat (0, 0, 0)).2.2])).size ≤ 66 := by
        rw [bs_size]; exact wd_len (i64_3 hi.1 hi.2.1 hi.2.2)
      clear hi
      have hs1 : (ByteArray.mk #[59]).size = 1 := rfl
      generalize hW : dvS (l.take k) = W at hst hz
      generalize hI : wdS [(l.getD (k : Int).toNat (0, 0, 0)).1, (l.getD (k : Int).toNat (0, 0, 0)).2.1, (l.getD (k : Int).toNat (0, 0, 0)).2.2] = I at h52 hz2
      have hI : dvW (l.getD k (0, 0, 0)) = I := hI
      rw [hI] at hst
      have hst := Hd.mk hst
      have hI := Hd.mk hI
      have hW := Hd.mk hW
      have ho2 : (((bs W).size + (bs I).size : Nat) : Int) ≤ 9223372036854775807 := by omega
      have ho3 : (((bs (W ++ [59])).size + (bs I).size : Nat) : Int) ≤ 9223372036854775807 := by
        have : (bs (W ++ [59])).size = (bs W).size + 1 := by rw [bs_size, bs_size]; simp
        omega
      have hs1 : (ByteArray.mk #[59]).size = 1 := rfl
      have ho1 : (((bs W).size + (ByteArray.mk #[59]).size : Nat) : Int) ≤ 9223372036854775807 := by omega
      (repeat' first | (refine Owe.same ?_; refine Owe.mk ?_ ?_) | (refine Fork.same ?_; (first | refine fkD ?_ ?_ | refine fkN ?_ ?_ | refine fkM ?_ ?_) <;> intro h) | ((first | refine OpsL.same ?_ | refine OpsDL.same ?_); first | refine pK h52 rfl rfl ?_) | refine MvQ.stay ?_)
      · exact ho1
      · refine ⟨?_, trivial⟩; omega
      · exact ho3
      · clear ho1 ho2 ho3; exact ⟨by omega, by omega⟩
      · refine again (k + 1) [] hlt (by omega) ?_
        (refine qis ?_ ?_ <;> (repeat' first | exact rfl | (refine qS ?_; constructor)))
        refine VEq.str ?_
        rw [hst.h, if_neg (by omega)]
        simp [bs]
      · refine ⟨?_, trivial⟩; omega
      · exact ho2
      · clear ho1 ho2 ho3; exact ⟨by omega, by omega⟩
      · refine again (k + 1) [] hlt (by omega) ?_
        (refine qis ?_ ?_ <;> (repeat' first | exact rfl | (refine qS ?_; constructor)))
        refine VEq.str ?_
        have hk0 : k = 0 := by omega
        rw [hst.h, if_pos hk0]
        have hW := hW.h
        rw [hk0, List.take_zero] at hW
        subst hW
        rfl
    · have hk1 : k = l.length := by omega
      have hw : dvS (l.take k) = dvS l := by rw [List.take_of_length_le (by omega)]
      rw [hw]
      (repeat' first | (refine Owe.same ?_; first | refine Owe.o ?_ | refine Owe.mk ?_ ?_) | (refine Fork.same ?_; (first | refine fkD ?_ ?_ | refine fkN ?_ ?_ | refine fkM ?_ ?_) <;> intro h) | refine MvQ.stay ?_)
      (refine rqK rfl ?_; (repeat' first | exact rfl | (refine qS ?_; constructor)))
theorem C18 {l m : List Tr3} : l.length < 4611686018427387904 → PFD Tryz.prog 18 [.c (trs l), .c (trs m)] (vbl (decide (l = m))) := fun hl => by
  by_cases hlen : l.length = m.length
  · refine pi1 fn18 ?_
    (repeat' first | (refine Owe.same ?_; first | refine Owe.o ?_ | refine Owe.mk ?_ ?_) | (refine Fork.same ?_; (first | refine fkY ?_ | refine fkF ?_ | ((first | refine fkD ?_ ?_ | refine fkN ?_ ?_ | refine fkM ?_ ?_) <;> intro h))) | ((first | refine OpsL.same ?_ | refine OpsDL.same ?_); first | refine oK C23 rfl rfl rfl ?_) | refine MvQ.stay ?_)
    refine Sat.lp (fun k : Nat => ⟨[(0, .c (trs l)), (1, .c (trs m)), (5, vi .i64 k)], [], 0⟩)
      (fun k => k ≤ l.length ∧ Hd (l.take k = m.take k)) (fun k => l.length - k) 0 [] ⟨Nat.zero_le _, ⟨by simp⟩⟩ ?_ ?_
    · (refine qis ?_ ?_ <;> (repeat' first | exact rfl | (refine qS ?_; constructor)))
    · intro k hk
      refine Fork.dec (fun hlt => ?_) (fun hlt => ?_)
      · have hlt : k < l.length := by omega
        have e : (!(decide ((l.getD (k : Int).toNat (0, 0, 0)).1 = (m.getD (k : Int).toNat (0, 0, 0)).1) && decide ((l.getD (k : Int).toNat (0, 0, 0)).2.1 = (m.getD (k : Int).toNat (0, 0, 0)).2.1) && decide ((l.getD (k : Int).toNat (0, 0, 0)).2.2 = (m.getD (k : Int).toNat (0, 0, 0)).2.2))) = !decide (l.getD k (0, 0, 0) = m.getD k (0, 0, 0)) := by
          show (!(decide ((l.getD k (0, 0, 0)).1 = (m.getD k (0, 0, 0)).1) && decide ((l.getD k (0, 0, 0)).2.1 = (m.getD k (0, 0, 0)).2.1) && decide ((l.getD k (0, 0, 0)).2.2 = (m.getD k (0, 0, 0)).2.2))) = _
          generalize l.getD k (0, 0, 0) = x
          generalize m.getD k (0, 0, 0) = y
          obtain ⟨a, b, c⟩ := x
          obtain ⟨a', b', c'⟩ := y
          simp only [Prod.mk.injEq, Bool.decide_and, Bool.and_assoc]
        have e := Hd.mk e
        (repeat' first | (refine Owe.same ?_; first | refine Owe.o ?_ | refine Owe.mk ?_ ?_) | (refine Fork.same ?_; (first | refine fkD ?_ ?_ | refine fkN ?_ ?_ | refine fkM ?_ ?_) <;> intro h) | ((first | refine OpsL.same ?_ | refine OpsDL.same ?_); first | refine pK C23 rfl rfl ?_) | refine MvQ.stay ?_)
        · rw [e.h] at h
          (refine rqK rfl ?_; (repeat' first | exact rfl | (refine qS ?_; constructor)))
          simp only [decide_eq_false_iff_not]; intro he; subst he; simp at h
        · rw [e.h] at h
          have h : l.getD k (0, 0, 0) = m.getD k (0, 0, 0) := by simpa using h
          refine again (k + 1) [] ⟨hlt, ⟨by rw [tk1 (0, 0, 0) hlt, tk1 (0, 0, 0) (by omega : k < m.length), hk.2.h, h]⟩⟩ (by omega) ?_
          (refine qis ?_ ?_ <;> (repeat' first | exact rfl | (refine qS ?_; constructor)))
      · have e : l = m := by
          have := hk.2.h
          rw [List.take_of_length_le (by omega), List.take_of_length_le (by omega)] at this
          exact this
        rw [decide_eq_true e]
        (repeat' first | (refine Owe.same ?_; first | refine Owe.o ?_ | refine Owe.mk ?_ ?_) | (refine Fork.same ?_; (first | refine fkD ?_ ?_ | refine fkN ?_ ?_ | refine fkM ?_ ?_) <;> intro h) | refine MvQ.stay ?_)
        (refine rqK rfl ?_; (repeat' first | exact rfl | (refine qS ?_; constructor)))
  · rw [decide_eq_false (fun e => hlen (by rw [e]))]
    refine pi1 fn18 ?_
    (repeat' first | (refine Owe.same ?_; first | refine Owe.o ?_ | refine Owe.mk ?_ ?_) | (refine Fork.same ?_; (first | refine fkY ?_ | refine fkF ?_ | ((first | refine fkD ?_ ?_ | refine fkN ?_ ?_ | refine fkM ?_ ?_) <;> intro h))) | ((first | refine OpsL.same ?_ | refine OpsDL.same ?_); first | refine oK C23 rfl rfl rfl ?_) | refine MvQ.stay ?_)
    (refine rqK rfl ?_; (repeat' first | exact rfl | (refine qS ?_; constructor)))
end Go.Pw

set_option linter.unusedSimpArgs false
set_option linter.unusedVariables false
namespace Go.Pw
set_option maxRecDepth 2000
open Go Go.Proofs A1 A2 A3 A4
theorem C7 {s : Sc} : PFD Tryz.prog 7 [scv s] (vbl (decide ((s.2.2.length : Int) ≤ 12))) := by
  refine pi1 fn7 ?_
  (repeat' first | (refine Owe.same ?_; first | refine Owe.o ?_ | refine Owe.mk ?_ ?_) | (refine Fork.same ?_; (first | refine fkD ?_ ?_ | refine fkN ?_ ?_ | refine fkM ?_ ?_) <;> intro h) | refine MvQ.stay ?_)
  (refine rqK rfl ?_; (repeat' first | exact rfl | (refine qS ?_; constructor)))
theorem ray_eqB {a b : Ry} : (decide (a.1.1 = b.1.1) && decide (a.1.2 = b.1.2) && decide (a.2.1.1 = b.2.1.1) && decide (a.2.1.2 = b.2.1.2) && (a.2.2 == b.2.2)) = decide (a = b) := by
  rw [Bool.eq_iff_iff]; simp [Prod.ext_iff, and_assoc]
theorem C19 {a b : Sc} : a.2.2.length < 4611686018427387904 → PFD Tryz.prog 19 [scv a, scv b] (vbl (decide (a = b))) := fun hl => by
  refine pi1 fn19 ?_
  (repeat' first | (refine Owe.same ?_; first | refine Owe.o ?_ | refine Owe.mk ?_ ?_) | (refine Fork.same ?_; (first | refine fkD ?_ ?_ | refine fkN ?_ ?_ | refine fkM ?_ ?_) <;> intro h) | refine MvQ.stay ?_)
  · (refine rqK rfl ?_; (repeat' first | exact rfl | (refine qS ?_; constructor))); simp only [decide_eq_false_iff_not]; intro he; exact h (congrArg (·.1) he)
  · (refine rqK rfl ?_; (repeat' first | exact rfl | (refine qS ?_; constructor))); simp only [decide_eq_false_iff_not]; intro he; exact h (congrArg (·.2.1) he)
  · (refine rqK rfl ?_; (repeat' first | exact rfl | (refine qS ?_; constructor))); simp only [decide_eq_false_iff_not]; intro he; subst he; exact h rfl
  · rename_i h1 h2
    have hlm : a.2.2.length = b.2.2.length := by omega
    (repeat' first | (refine Owe.same ?_; first | refine Owe.o ?_ | refine Owe.mk ?_ ?_) | (refine Fork.same ?_; (first | refine fkD ?_ ?_ | refine fkN ?_ ?_ | refine fkM ?_ ?_) <;> intro h) | refine MvQ.stay ?_)
    refine Sat.lp0 (fun k : Nat => [(5, vi .i64 k), (2, .c (.rp (scD a))), (3, .c (.rp (scD b)))]) (fun k => k ≤ a.2.2.length ∧ ∀ i, i < k → a.2.2.getD i ryd = b.2.2.getD i ryd) (fun k => a.2.2.length - k) 0 ⟨Nat.zero_le _, fun i hi => by omega⟩ (by ((first | refine qen ?_ | refine qvs ?_ | refine qeq ?_ | refine qst ?_ | refine qv ?_ | refine qc ?_ | refine qe ?_ | refine qcs ?_ | skip); (repeat' first | exact rfl | (refine qS ?_; constructor)))) ?_
    intro k hk
    (repeat' first | (refine Owe.same ?_; first | refine Owe.o ?_ | refine Owe.mk ?_ ?_) | (refine Fork.same ?_; (first | refine fkD ?_ ?_ | refine fkN ?_ ?_ | refine fkM ?_ ?_) <;> intro h) | refine MvQ.stay ?_)
    · rw [ray_eqB] at h
      (refine rqK rfl ?_; (repeat' first | exact rfl | (refine qS ?_; constructor))); simp only [decide_eq_false_iff_not]; intro he; subst he; simp at h
    · rw [ray_eqB] at h
      refine again0 (k + 1) ⟨by omega, fun i hi => ?_⟩ (by omega) (by ((first | refine qen ?_ | refine qvs ?_ | refine qeq ?_ | refine qst ?_ | refine qv ?_ | refine qc ?_ | refine qe ?_ | refine qcs ?_ | skip); (repeat' first | exact rfl | (refine qS ?_; constructor))))
      rcases Nat.lt_succ_iff_lt_or_eq.1 hi with h3 | rfl
      · exact hk.2 i h3
      · simpa using h
    · (refine rqK rfl ?_; (repeat' first | exact rfl | (refine qS ?_; constructor))); simp only [decide_eq_true_eq]
      refine Prod.ext h1 (Prod.ext h2 (ext_getD ryd hlm fun i hi => hk.2 i (by omega)))
end Go.Pw

set_option linter.unusedSimpArgs false
set_option linter.unusedVariables false
set_option maxHeartbeats 2000000
namespace Go.Pw
set_option maxRecDepth 2000
open Go Go.Proofs A1 A2 A3 A4
theorem PFD.ri0 {P : Program} {f : FuncId} {args args' : List V} {v : V} (h : PFD P f args' v) (hr : RIs args args') : PFD P f args v :=
  ⟨h.h.1, h.h.2.1, fun Γ w us hs hn ha => h.h.2.2 Γ w us hs hn (hr.rep ha)⟩
end Go.Pw

set_option linter.unusedSimpArgs false
set_option linter.unusedVariables false
set_option maxHeartbeats 1000000
namespace Go.Pw
open Go.RowKit Go.Lib
set_option maxRecDepth 2000
open Go Go.Proofs A1 A2 A3 A4
theorem CEq.li_5 {a0 a1 a2 a3 a4 : Int} : CEq (.d (.sl 1 [[dI a0], [dI a1], [dI a2], [dI a3], [dI a4]].length fun i => [[dI a0], [dI a1], [dI a2], [dI a3], [dI a4]].getD i [])) (ints [a0, a1, a2, a3, a4]) := CEq.sl rfl (fun i hi => by
  rcases i with _ | i
  · rfl
  rcases i with _ | i
  · rfl
  rcases i with _ | i
  · rfl
  rcases i with _ | i
  · rfl
  rcases i with _ | i
  · rfl
  exact absurd hi (by simp only [List.length_cons, List.length_nil]; omega))
abbrev lit5 (a b c d e : Int) : C := .d (.sl 1 [[dI a], [dI b], [dI c], [dI d], [dI e]].length fun i => [[dI a], [dI b], [dI c], [dI d], [dI e]].getD i [])
theorem i64_5 {a b c d e : Int} (h1 : i64P a) (h2 : i64P b) (h3 : i64P c) (h4 : i64P d) (h5 : i64P e) : ∀ n ∈ [a, b, c, d, e], i64P n := fun n hn => by
  simp only [List.mem_cons, List.not_mem_nil, or_false] at hn
  rcases hn with rfl | rfl | rfl | rfl | rfl <;> assumption
theorem li5_ris {a b c d e : Int} : RIs [.c (lit5 a b c d e)] [.c (ints [a, b, c, d, e])] := VEqs.ris ⟨.c _ _ CEq.li_5, trivial⟩
abbrev b01 (b : Bool) : Int := if b then 1 else 0
theorem b01_i64 (b : Bool) : i64P (b01 b) := by cases b <;> decide
/-- A ray, a scene as strings. -/
def ryW (r : Ry) : By := wdS [r.1.1, r.1.2, r.2.1.1, r.2.1.2, b01 r.2.2]
def scS (s : Sc) : By := jnG 59 (wdS [s.1, s.2.1] :: s.2.2.map ryW)
abbrev w64R (r : Ry) : Prop := (i64P r.1.1 ∧ i64P r.1.2) ∧ i64P r.2.1.1 ∧ i64P r.2.1.2
abbrev w64S (s : Sc) : Prop := i64P s.1 ∧ i64P s.2.1 ∧ ∀ r ∈ s.2.2, w64R r
theorem ry_len {r : Ry} (h : w64R r) : (ryW r).length ≤ 110 := wd_len (i64_5 h.1.1 h.1.2 h.2.1 h.2.2 (b01_i64 _))
theorem hd_len {a b : Int} (h1 : i64P a) (h2 : i64P b) : (wdS [a, b]).length ≤ 44 := wd_len (fun n hn => by
  simp only [List.mem_cons, List.not_mem_nil, or_false] at hn
  rcases hn with rfl | rfl <;> assumption)
theorem sc_len {s : Sc} (h : w64S s) : (scS s).length ≤ (s.2.2.length + 1) * 111 := by
  have := jn_len (c := 59) (M := 110) (l := wdS [s.1, s.2.1] :: s.2.2.map ryW) (fun x hx => by
    rcases List.mem_cons.1 hx with h1 | h1
    · subst h1; have := hd_len h.1 h.2.1; omega
    · obtain ⟨d, hd, rfl⟩ := List.mem_map.1 h1
      exact ry_len (h.2.2 d hd))
  rw [List.length_cons, List.length_map] at this; exact this
theorem sc_step {a b : Int} {l : List Ry} {k : Nat} (h : k < l.length) : scS (a, b, l.take (k + 1)) = scS (a, b, l.take k) ++ 59 :: ryW (l.getD k ryd) := by
  unfold scS
  simp only
  rw [tk1 ryd h, List.map_append, ← List.cons_append]
  exact jn_app (by simp)
theorem C52_5 {a b c d e : Int} (h1 : i64P a) (h2 : i64P b) (h3 : i64P c) (h4 : i64P d) (h5 : i64P e) : PFD Tryz.prog 52 [.c (lit5 a b c d e)] (sv (wdS [a, b, c, d, e])) :=
  PFD.ri0 (C52 ⟨by simp, i64_5 h1 h2 h3 h4 h5⟩) li5_ris
theorem C52_2 {a b : Int} (h1 : i64P a) (h2 : i64P b) : PFD Tryz.prog 52 [.c (ints [a, b])] (sv (wdS [a, b])) := C52 ⟨by simp, fun n hn => by
  simp only [List.mem_cons, List.not_mem_nil, or_false] at hn
  rcases hn with rfl | rfl <;> assumption⟩
theorem C17 {s : Sc} : (s.2.2.length ≤ 1000 ∧ w64S s) → PFD Tryz.prog 17 [scv s] (sv (scS s)) := fun ⟨hl, h⟩ => by
  obtain ⟨w, g, l⟩ := s
  simp only at hl
  have h := Hd.mk h
  have h2 := C52_2 h.h.1 h.h.2.1
  refine pi1 fn17 ?_
  (repeat' first | (refine Owe.same ?_; first | refine Owe.o ?_ | refine Owe.mk ?_ ?_) | (refine Fork.same ?_; (first | refine fkD ?_ ?_ | refine fkN ?_ ?_ | refine fkM ?_ ?_) <;> intro h) | ((first | refine OpsL.same ?_ | refine OpsDL.same ?_); first | refine pK h2 rfl rfl ?_) | refine MvQ.stay ?_)
  refine Sat.lp (fun k : Nat => ⟨[(1, .c (.rp (scD (w, g, l)))), (3, sv (scS (w, g, l.take k))), (4, vi .i64 k)], [], 0⟩)
    (fun k => k ≤ l.length) (fun k => l.length - k) 0 [] (Nat.zero_le _) ?_ ?_
  · (refine qis ?_ ?_ <;> (repeat' first | exact rfl | (refine qS ?_; constructor)))
  · intro k hk
    refine Fork.dec (fun hlt => ?_) (fun hlt => ?_)
    · have hlt : k < l.length := by have : (k : Int) < l.length := hlt; omega
      have hi := h.h.2.2 _ (getD_mem ryd hlt)
      have hst := sc_step (a := w) (b := g) hlt
      have hz : (bs (scS (w, g, l.take k))).size ≤ 200000 := by
        have := sc_len (s := (w, g, l.take k)) ⟨h.h.1, h.h.2.1, fun r hr => h.h.2.2 r (List.mem_of_mem_take hr)⟩
        rw [bs_size]; simp only [List.length_take] at this; omega
      have hz2 : (bs (ryW (l.getD k ryd))).size ≤ 110 := by rw [bs_size]; exact ry_len hi
      have hs1 : (ByteArray.mk #[59]).size = 1 := rfl
      generalize hW : scS (w, g, l.take k) = W at hst hz
      have hst := Hd.mk hst
      have hW := Hd.mk hW
      have ho1 : (((bs W).size + (ByteArray.mk #[59]).size : Nat) : Int) ≤ 9223372036854775807 := by omega
      have ho3 : (((bs (W ++ [59])).size + (bs (ryW (l.getD k ryd))).size : Nat) : Int) ≤ 9223372036854775807 := by
        have : (bs (W ++ [59])).size = (bs W).size + 1 := by rw [bs_size, bs_size]; simp
        omega
      have hi := Hd.mk hi
      cases hb : (l.getD k ryd).2.2 with
      | true =>
        have h52 := C52_5 (a := (l.getD (k : Int).toNat ryd).1.1) (b := (l.getD (k : Int).toNat ryd).1.2) (c := (l.getD (k : Int).toNat ryd).2.1.1) (d := (l.getD (k : Int).toNat ryd).2.1.2) (e := 1) hi.h.1.1 hi.h.1.2 hi.h.2.1 hi.h.2.2 (by decide)
        have hb2 : (l.getD (k : Int).toNat ryd).2.2 = true := hb
        generalize hI : wdS [(l.getD (k : Int).toNat ryd).1.1, (l.getD (k : Int).toNat ryd).1.2, (l.getD (k : Int).toNat ryd).2.1.1, (l.getD (k : Int).toNat ryd).2.1.2, 1] = I at h52
        have hI2 : ryW (l.getD k ryd) = I := by unfold ryW; rw [hb]; exact hI
        rw [hI2] at ho3
        have hst := Hd.mk (hI2 ▸ hst.h)
        (repeat' first | (refine Owe.same ?_; refine Owe.mk ?_ ?_) | (refine Fork.same ?_; (first | refine fkD ?_ ?_ | refine fkN ?_ ?_ | refine fkM ?_ ?_) <;> intro h) | ((first | refine OpsL.same ?_ | refine OpsDL.same ?_); first | refine oK h52 rfl rfl rfl ?_) | refine MvQ.stay ?_)
        · show 0 ≤ (k : Int) ∧ (k : Int) < l.length; omega
        · exact ⟨ho1, trivial⟩
        · exact ho3
        · clear ho1 ho3; exact ⟨by omega, by omega⟩
        · refine again (k + 1) [] hlt (by omega) ?_
          (refine qis ?_ ?_ <;> (repeat' first | exact rfl | (refine qS ?_; constructor)))
          refine VEq.str ?_
          rw [hst.h]
          simp [bs]
        · exact absurd (hb2.symm.trans h) (by decide)
        · exact absurd (hb2.symm.trans h) (by decide)
      | false =>
        have h52 := C52_5 (a := (l.getD (k : Int).toNat ryd).1.1) (b := (l.getD (k : Int).toNat ryd).1.2) (c := (l.getD (k : Int).toNat ryd).2.1.1) (d := (l.getD (k : Int).toNat ryd).2.1.2) (e := 0) hi.h.1.1 hi.h.1.2 hi.h.2.1 hi.h.2.2 (by decide)
        have hb2 : (l.getD (k : Int).toNat ryd).2.2 = false := hb
        generalize hI : wdS [(l.getD (k : Int).toNat ryd).1.1, (l.getD (k : Int).toNat ryd).1.2, (l.getD (k : Int).toNat ryd).2.1.1, (l.getD (k : Int).toNat ryd).2.1.2, 0] = I at h52
        have hI2 : ryW (l.getD k ryd) = I := by unfold ryW; rw [hb]; exact hI
        rw [hI2] at ho3
        have hst := Hd.mk (hI2 ▸ hst.h)
        (repeat' first | (refine Owe.same ?_; refine Owe.mk ?_ ?_) | (refine Fork.same ?_; (first | refine fkD ?_ ?_ | refine fkN ?_ ?_ | refine fkM ?_ ?_) <;> intro h) | ((first | refine OpsL.same ?_ | refine OpsDL.same ?_); first | refine oK h52 rfl rfl rfl ?_) | refine MvQ.stay ?_)
        · show 0 ≤ (k : Int) ∧ (k : Int) < l.length; omega
        · exact absurd (hb2.symm.trans h) (by decide)
        · exact absurd (hb2.symm.trans h) (by decide)
        · exact ⟨ho1, trivial⟩
        · exact ho3
        · clear ho1 ho3; exact ⟨by omega, by omega⟩
        · refine again (k + 1) [] hlt (by omega) ?_
          (refine qis ?_ ?_ <;> (repeat' first | exact rfl | (refine qS ?_; constructor)))
          refine VEq.str ?_
          rw [hst.h]
          simp [bs]
    · have hk1 : k = l.length := by have : ¬ (k : Int) < l.length := hlt; omega
      have hw : scS (w, g, l.take k) = scS (w, g, l) := by rw [List.take_of_length_le (by omega)]
      rw [hw]
      (repeat' first | (refine Owe.same ?_; first | refine Owe.o ?_ | refine Owe.mk ?_ ?_) | (refine Fork.same ?_; (first | refine fkD ?_ ?_ | refine fkN ?_ ?_ | refine fkM ?_ ?_) <;> intro h) | refine MvQ.stay ?_)
      (refine rqK rfl ?_; (repeat' first | exact rfl | (refine qS ?_; constructor)))
end Go.Pw

set_option linter.unusedSimpArgs false
set_option linter.unusedVariables false
set_option maxHeartbeats 1000000
namespace Go.Pw
open Go.RowKit Go.Lib
set_option maxRecDepth 2000
open Go Go.Proofs A1 A2 A3 A4
/-- A ray, the size, a scene out of a string. -/
def ryP (p : By) : Option Ry := match ntN p 5 with
  | some [a, b, c, d, e] => if e ≤ 1 then some ((a, b), (c, d), decide (e = 1)) else none
  | _ => none
def hdP (p : By) : Option (Int × Int) := match ntN p 2 with
  | some [a, b] => some (a, b)
  | _ => none
def psV (h : By) (r : List By) : Sc × Int := match hdP h, alL ryP r with
  | some (a, b), some l => if (scE (a, b, l)).2 = 0 then ((a, b, l), 0) else ((0, 0, []), (scE (a, b, l)).2)
  | _, _ => ((0, 0, []), 7)
def psE (s : By) : Sc × Int := match cutG 59 [] s with
  | [] => ((0, 0, []), 7)
  | h :: r => psV h r
theorem ryP_n {p : By} (h : ryP p = none) : ntN p 5 = none ∨ ∃ a b c d e, ntN p 5 = some [a, b, c, d, e] ∧ 1 < e := by
  unfold ryP at h
  split at h
  · rename_i a b c d e h1
    split at h
    · cases h
    · exact .inr ⟨a, b, c, d, e, h1, by omega⟩
  · rename_i h1
    cases hn : ntN p 5 with
    | none => exact .inl rfl
    | some l =>
      have hl := ntN_len hn
      match l, hl, hn with
      | [a, b, c, d, e], _, hn => exact absurd hn (h1 a b c d e)
      | [], hl, _ => simp at hl
      | [_], hl, _ => simp at hl
      | [_, _], hl, _ => simp at hl
      | [_, _, _], hl, _ => simp at hl
      | [_, _, _, _], hl, _ => simp at hl
      | _ :: _ :: _ :: _ :: _ :: _ :: _, hl, _ => simp at hl; omega
theorem ryP_y {p : By} {r : Ry} (h : ryP p = some r) : ∃ e, ntN p 5 = some [r.1.1, r.1.2, r.2.1.1, r.2.1.2, e] ∧ e ≤ 1 ∧ r.2.2 = decide (e = 1) := by
  unfold ryP at h
  split at h
  · rename_i a b c d e h1
    split at h
    · rename_i h2; cases h; exact ⟨e, h1, h2, rfl⟩
    · cases h
  · cases h
theorem hdP_n {p : By} (h : hdP p = none) : ntN p 2 = none := by
  unfold hdP at h
  split at h
  · cases h
  · rename_i h1
    cases hn : ntN p 2 with
    | none => rfl
    | some l =>
      have hl := ntN_len hn
      match l, hl, hn with
      | [a, b], _, hn => exact absurd hn (h1 a b)
      | [], hl, _ => simp at hl
      | [_], hl, _ => simp at hl
      | _ :: _ :: _ :: _, hl, _ => simp at hl; omega
theorem hdP_y {p : By} {a b : Int} (h : hdP p = some (a, b)) : ntN p 2 = some [a, b] := by
  unfold hdP at h
  split at h
  · rename_i h1; cases h; exact h1
  · cases h
theorem psE_of {s h : By} {r : List By} (e : cutG 59 [] s = h :: r) : psE s = psV h r := by
  unfold psE; rw [e]
theorem psV_h {h : By} {r : List By} (e : hdP h = none) : psV h r = ((0, 0, []), 7) := by
  unfold psV; rw [e]
theorem psV_r {h : By} {r : List By} (e : alL ryP r = none) : psV h r = ((0, 0, []), 7) := by
  unfold psV; rw [e]
  cases hdP h <;> rfl
theorem psV_y {h : By} {r : List By} {a b : Int} {l : List Ry} (e1 : hdP h = some (a, b)) (e : alL ryP r = some l) : psV h r = if (scE (a, b, l)).2 = 0 then ((a, b, l), 0) else ((0, 0, []), (scE (a, b, l)).2) := by
  unfold psV; rw [e1, e]
theorem C15 {s : By} : s.length ≤ 60000 → PFD Tryz.prog 15 [sv s] (.tup [scv (psE s).1, vi .i64 (psE s).2]) := fun hs => by
  have hz : (bs s).size = s.length := bs_size s
  have h50 := C50 (s := s) (c := 59) (by omega)
  have hPl := cut_count (c := 59) (l := s) (acc := [])
  have hPx : Hd (∀ x ∈ cutG 59 [] s, x.length ≤ 60000) := ⟨fun x hx => by have := cut_len x hx; simp at this; omega⟩
  obtain ⟨h0, R, hP⟩ : ∃ h0 R, cutG 59 [] s = h0 :: R := by
    cases hc : cutG 59 [] s with
    | nil => exact absurd hc cutG_ne
    | cons x r => exact ⟨x, r, rfl⟩
  rw [psE_of hP]
  rw [hP] at h50 hPx hPl
  have hPl : R.length ≤ 60001 := by rw [List.length_cons] at hPl; omega
  clear hP
  cases hh : hdP h0 with
  | none =>
    rw [psV_h hh]
    have h51 := C51n (s := h0) (hdP_n hh) (Nat.le_trans (hPx.h h0 (by simp)) (by decide))
    refine pi2 fn15 ?_
    (repeat' first | (refine Owe.same ?_; first | refine Owe.o ?_ | refine Owe.mk ?_ ?_) | (refine Fork.same ?_; (first | refine fkY ?_ | refine fkF ?_ | ((first | refine fkD ?_ ?_ | refine fkN ?_ ?_ | refine fkM ?_ ?_) <;> intro h))) | ((first | refine OpsL.same ?_ | refine OpsDL.same ?_); first | refine oK h50 rfl rfl rfl ?_ | refine oK h51 rfl rfl rfl ?_) | refine MvQ.stay ?_)
    (refine rqK rfl ?_; (repeat' first | exact rfl | (refine qS ?_; constructor)))
  | some ab =>
    obtain ⟨a, b⟩ := ab
    have h51 := C51y (s := h0) (hdP_y hh) (Nat.le_trans (hPx.h h0 (by simp)) (by decide))
    refine pi2 fn15 ?_
    (repeat' first | (refine Owe.same ?_; first | refine Owe.o ?_ | refine Owe.mk ?_ ?_) | (refine Fork.same ?_; (first | refine fkY ?_ | refine fkF ?_ | ((first | refine fkD ?_ ?_ | refine fkN ?_ ?_ | refine fkM ?_ ?_) <;> intro h))) | ((first | refine OpsL.same ?_ | refine OpsDL.same ?_); first | refine oK h50 rfl rfl rfl ?_ | refine oK h51 rfl rfl rfl ?_) | refine MvQ.stay ?_)
    refine Sat.nilB 9 2 51 5 (fun i => r5 (([] : List Ry).getD i ryd)) rfl rfl ?_
    refine Sat.lp (fun st : Nat × List Ry => ⟨[(2, .c (.bp 0 0)), (4, .c (.bp 1 0)), (5, .c (sts (h0 :: R))), (8, .c (.bp 2 0)), (9, vi .i64 (1 + (st.1 : Int)))],
        [(0, .box [int 0, int 0, .d (.v (.slice none 0 0))]), (1, .box [int 0, int 0, .d (.v (.slice none 0 0))]), (2, .box [int a, int b, .ms 3 st.2.length]), (3, rowv 51 5 r5 ryd st.2)], 4⟩)
      (fun st : Nat × List Ry => (st.1 ≤ R.length ∧ st.2.length = st.1) ∧ Hd (alL ryP (R.take st.1) = some st.2)) (fun st : Nat × List Ry => R.length - st.1) (0, []) [0, 1, 9, 11] ⟨by simp, ⟨rfl⟩⟩ ?_ ?_
    · (refine qis ?_ ?_ <;> (repeat' first | exact rfl | (refine qS ?_; constructor)))
    · rintro ⟨k, acc⟩ ⟨⟨hk, hal⟩, ha⟩
      simp only at hk hal ha
      refine Fork.dec (fun hlt => ?_) (fun hlt => ?_)
      · have hlt : k < R.length := by
          have hlt : 1 + (k : Int) < ((R.length + 1 : Nat) : Int) := hlt
          omega
        have hg : (h0 :: R).getD (1 + (k : Int)).toNat [] = R.getD k [] := by
          rw [show (1 + (k : Int)).toNat = k + 1 by omega]; rfl
        have hpl := hPx.h _ (List.mem_cons_of_mem h0 (getD_mem [] hlt))
        have hlen : (h0 :: R).length = R.length + 1 := rfl
        cases hd : ryP (R.getD k []) with
        | none =>
          rw [psV_r (alL_take hlt hd)]
          rcases ryP_n hd with hn | ⟨a', b', c', d', e', hn, he⟩
          · have h51 := C51n (s := (h0 :: R).getD (1 + (k : Int)).toNat []) (n := 5) (by rw [hg]; exact hn) (by rw [hg]; exact Nat.le_trans hpl (by decide))
            (repeat' first | (refine Owe.same ?_; first | refine Owe.o ?_ | refine Owe.mk ?_ ?_) | (refine Fork.same ?_; (first | refine fkY ?_ | refine fkF ?_ | ((first | refine fkD ?_ ?_ | refine fkN ?_ ?_ | refine fkM ?_ ?_) <;> intro h))) | ((first | refine OpsL.same ?_ | refine OpsDL.same ?_); first | refine oK h51 rfl rfl rfl ?_) | refine MvQ.stay ?_)
            (refine rqK rfl ?_; (repeat' first | exact rfl | (refine qS ?_; constructor)))
          · have h51 := C51y (s := (h0 :: R).getD (1 + (k : Int)).toNat []) (n := 5) (by rw [hg]; exact hn) (by rw [hg]; exact Nat.le_trans hpl (by decide))
            have he4 : 1 < [a', b', c', d', e'].getD (Int.toNat 4) 0 := he
            (repeat' first | (refine Owe.same ?_; first | refine Owe.o ?_ | refine Owe.mk ?_ ?_) | (refine Fork.same ?_; (first | refine fkY ?_ | refine fkF ?_ | ((first | refine fkD ?_ ?_ | refine fkN ?_ ?_ | refine fkM ?_ ?_) <;> intro h))) | ((first | refine OpsL.same ?_ | refine OpsDL.same ?_); first | refine oK h51 rfl rfl rfl ?_) | refine MvQ.stay ?_)
            (refine rqK rfl ?_; (repeat' first | exact rfl | (refine qS ?_; constructor)))
        | some r =>
          obtain ⟨e', hn, he, hr⟩ := ryP_y hd
          have h51 := C51y (s := (h0 :: R).getD (1 + (k : Int)).toNat []) (n := 5) (by rw [hg]; exact hn) (by rw [hg]; exact Nat.le_trans hpl (by decide))
          have hn1 : Hd (alL ryP (R.take (k + 1)) = some (acc ++ [r])) := ⟨by rw [tk1 [] hlt, alL_app ha.h, hd]⟩
          have hd := Hd.mk hd
          have he4 : [r.1.1, r.1.2, r.2.1.1, r.2.1.2, e'].getD (Int.toNat 4) 0 ≤ 1 := he
          (repeat' first | (refine Owe.same ?_; first | refine Owe.o ?_ | refine Owe.mk ?_ ?_) | (refine Fork.same ?_; (first | refine fkY ?_ | refine fkF ?_ | ((first | refine fkD ?_ ?_ | refine fkN ?_ ?_ | refine fkM ?_ ?_) <;> intro h))) | ((first | refine OpsL.same ?_ | refine OpsDL.same ?_); first | refine oK h51 rfl rfl rfl ?_) | refine MvQ.stay ?_)
          refine again (k + 1, acc ++ [r]) [0, 1, 2, 26] ⟨⟨hlt, by simp; omega⟩, hn1⟩ (by show R.length - (k + 1) < R.length - k; omega) ?_
          (refine qis ?_ ?_ <;> (repeat' first | exact rfl | (refine qS ?_; constructor)))
          · simp
          · refine ⟨r, ?_, rfl⟩
            show [dI r.1.1, dI r.1.2, dI r.2.1.1, dI r.2.1.2, D.v (Value.bool (decide (e' = 1)))] = r5 r
            rw [← hr]
      · have hk1 : k = R.length := by
          have hlt : ¬ 1 + (k : Int) < ((R.length + 1 : Nat) : Int) := hlt
          omega
        have ha := ha.h
        rw [hk1, List.take_length] at ha
        rw [psV_y hh ha]
        have h21 := C21 (s := (a, b, acc))
        by_cases h0 : (scE (a, b, acc)).2 = 0
        · rw [if_pos h0]
          rw [h0] at h21
          (repeat' first | (refine Owe.same ?_; first | refine Owe.o ?_ | refine Owe.mk ?_ ?_) | (refine Fork.same ?_; (first | refine fkD ?_ ?_ | refine fkN ?_ ?_ | refine fkM ?_ ?_) <;> intro h))
          refine MvQ.frzX 2 2 3 rfl rfl rfl (Nat.le_refl _) ?_
          (repeat' first | (refine Owe.same ?_; first | refine Owe.o ?_ | refine Owe.mk ?_ ?_) | (refine Fork.same ?_; (first | refine fkY ?_ | refine fkF ?_ | ((first | refine fkD ?_ ?_ | refine fkN ?_ ?_ | refine fkM ?_ ?_) <;> intro h))) | ((first | refine OpsL.same ?_ | refine OpsDL.same ?_); first | refine oK h21 rfl rfl rfl ?_) | refine MvQ.stay ?_)
          (refine rqK rfl ?_; (repeat' first | exact rfl | (refine qS ?_; constructor)))
        · rw [if_neg h0]
          (repeat' first | (refine Owe.same ?_; first | refine Owe.o ?_ | refine Owe.mk ?_ ?_) | (refine Fork.same ?_; (first | refine fkD ?_ ?_ | refine fkN ?_ ?_ | refine fkM ?_ ?_) <;> intro h))
          refine MvQ.frzX 2 2 3 rfl rfl rfl (Nat.le_refl _) ?_
          (repeat' first | (refine Owe.same ?_; first | refine Owe.o ?_ | refine Owe.mk ?_ ?_) | (refine Fork.same ?_; (first | refine fkY ?_ | refine fkF ?_ | ((first | refine fkD ?_ ?_ | refine fkN ?_ ?_ | refine fkM ?_ ?_) <;> intro h))) | ((first | refine OpsL.same ?_ | refine OpsDL.same ?_); first | refine oK h21 rfl rfl rfl ?_) | refine MvQ.stay ?_)
          (refine rqK rfl ?_; (repeat' first | exact rfl | (refine qS ?_; constructor)))
end Go.Pw

set_option linter.unusedSimpArgs false
set_option linter.unusedVariables false
set_option maxHeartbeats 1000000
namespace Go.Pw
open Go.RowKit Go.Lib
set_option maxRecDepth 2000
open Go Go.Proofs A1 A2 A3 A4
/-- The pieces behind a piece, if there are more. -/
abbrev moreL (m : Bool) (r : By) : List By := match m with | true => cutG 59 [] r | false => []
theorem C48e {s : By} (hs : s.length ≤ 1000000) : ∃ p r m, PFD Tryz.prog 48 [sv s, .c (.d (.v (.string ⟨#[59]⟩)))] (.tup [sv p, sv r, vbl m]) ∧ cutG 59 [] s = p :: moreL m r ∧ p.length ≤ s.length ∧ (m = true → r.length < s.length) := by
  rcases ix_cases 59 s with ⟨hi, hm⟩ | ⟨p, r, rfl, hm, hi⟩
  · exact ⟨s, [], false, C48m hm, by rw [cutG_miss hm]; rfl, Nat.le_refl _, by simp⟩
  · exact ⟨p, r, true, C48h hm (by simp at hs; omega), by rw [cutG_hit hm]; rfl, by simp, fun _ => by simp; omega⟩
abbrev mzN (m : Bool) (r : By) : Nat := match m with | true => r.length + 1 | false => 0
theorem C13 {s : By} : s.length ≤ 60000 → PFD Tryz.prog 13 [sv s] (.tup [scv (psE s).1, vi .i64 (psE s).2]) := fun hs => by
  have hz : (bs s).size = s.length := bs_size s
  obtain ⟨p0, r0, m0, h48, hcut, hp0, hr0⟩ := C48e (s := s) (by omega)
  rw [psE_of hcut]
  cases hh : hdP p0 with
  | none =>
    obtain ⟨l, h46⟩ := C46x (hdP_n hh) (show p0.length ≤ 1000000 by omega)
    rw [psV_h hh]
    refine pi2 fn13 ?_
    (repeat' first | (refine Owe.same ?_; first | refine Owe.o ?_ | refine Owe.mk ?_ ?_) | (refine Fork.same ?_; (first | refine fkY ?_ | refine fkF ?_ | ((first | refine fkD ?_ ?_ | refine fkN ?_ ?_ | refine fkM ?_ ?_) <;> intro h))) | ((first | refine OpsL.same ?_ | refine OpsDL.same ?_); first | refine oK h48 rfl rfl rfl ?_ | refine oK h46 rfl rfl rfl ?_) | refine MvQ.stay ?_)
    (refine rqK rfl ?_; (repeat' first | exact rfl | (refine qS ?_; constructor)))
  | some ab =>
    obtain ⟨a, b⟩ := ab
    have h46 := C46y (hdP_y hh) (show p0.length ≤ 1000000 by omega)
    have hrb : Hd (m0 = true → r0.length ≤ 60000) := ⟨fun h => by have := hr0 h; omega⟩
    clear hr0 hcut
    refine pi2 fn13 ?_
    (repeat' first | (refine Owe.same ?_; first | refine Owe.o ?_ | refine Owe.mk ?_ ?_) | (refine Fork.same ?_; (first | refine fkY ?_ | refine fkF ?_ | ((first | refine fkD ?_ ?_ | refine fkN ?_ ?_ | refine fkM ?_ ?_) <;> intro h))) | ((first | refine OpsL.same ?_ | refine OpsDL.same ?_); first | refine oK h48 rfl rfl rfl ?_ | refine oK h46 rfl rfl rfl ?_) | refine MvQ.stay ?_)
    refine Sat.nilB 8 2 51 5 (fun i => r5 (([] : List Ry).getD i ryd)) rfl rfl ?_
    refine Sat.lp (fun st : List Ry × By × Bool => ⟨[(2, .c (.bp 0 0)), (5, sv st.2.1), (6, vbl st.2.2), (9, .c (.bp 1 0))],
        [(0, .box [int 0, int 0, .d (.v (.slice none 0 0))]), (1, .box [int a, int b, .ms 2 st.1.length]), (2, rowv 51 5 r5 ryd st.1)], 3⟩)
      (fun st : List Ry × By × Bool => st.1.length + mzN st.2.2 st.2.1 ≤ 60001 ∧ Hd (∃ dn, moreL m0 r0 = dn ++ moreL st.2.2 st.2.1 ∧ alL ryP dn = some st.1)) (fun st : List Ry × By × Bool => mzN st.2.2 st.2.1) ([], r0, m0) [0, 8, 10]
      ⟨by cases m0 with
        | true => have := hrb.h rfl; show 0 + (r0.length + 1) ≤ 60001; omega
        | false => simp, ⟨[], rfl, rfl⟩⟩ ?_ ?_
    · (refine qis ?_ ?_ <;> (repeat' first | exact rfl | (refine qS ?_; constructor)))
    · rintro ⟨acc, rest, m⟩ ⟨hn, hi⟩
      simp only at hn hi
      cases m with
      | false =>
        obtain ⟨dn, hdn, ha⟩ := hi.h
        have hdn : moreL m0 r0 = dn := by rw [hdn]; exact List.append_nil _
        rw [← hdn] at ha
        rw [psV_y hh ha]
        have h49 := C49 (s := (a, b, acc)) (by show acc.length ≤ _; omega)
        by_cases h0 : (scE (a, b, acc)).2 = 0
        · rw [if_pos h0]
          rw [h0] at h49
          (repeat' first | (refine Owe.same ?_; first | refine Owe.o ?_ | refine Owe.mk ?_ ?_) | (refine Fork.same ?_; (first | refine fkD ?_ ?_ | refine fkN ?_ ?_ | refine fkM ?_ ?_) <;> intro h))
          · cases h
          refine MvQ.frzX 1 2 2 rfl rfl rfl (Nat.le_refl _) ?_
          (repeat' first | (refine Owe.same ?_; first | refine Owe.o ?_ | refine Owe.mk ?_ ?_) | (refine Fork.same ?_; (first | refine fkY ?_ | refine fkF ?_ | ((first | refine fkD ?_ ?_ | refine fkN ?_ ?_ | refine fkM ?_ ?_) <;> intro h))) | ((first | refine OpsL.same ?_ | refine OpsDL.same ?_); first | refine oK h49 rfl rfl rfl ?_) | refine MvQ.stay ?_)
          (refine rqK rfl ?_; (repeat' first | exact rfl | (refine qS ?_; constructor)))
        · rw [if_neg h0]
          (repeat' first | (refine Owe.same ?_; first | refine Owe.o ?_ | refine Owe.mk ?_ ?_) | (refine Fork.same ?_; (first | refine fkD ?_ ?_ | refine fkN ?_ ?_ | refine fkM ?_ ?_) <;> intro h))
          · cases h
          refine MvQ.frzX 1 2 2 rfl rfl rfl (Nat.le_refl _) ?_
          (repeat' first | (refine Owe.same ?_; first | refine Owe.o ?_ | refine Owe.mk ?_ ?_) | (refine Fork.same ?_; (first | refine fkY ?_ | refine fkF ?_ | ((first | refine fkD ?_ ?_ | refine fkN ?_ ?_ | refine fkM ?_ ?_) <;> intro h))) | ((first | refine OpsL.same ?_ | refine OpsDL.same ?_); first | refine oK h49 rfl rfl rfl ?_) | refine MvQ.stay ?_)
          (refine rqK rfl ?_; (repeat' first | exact rfl | (refine qS ?_; constructor)))
      | true =>
        have hn : acc.length + (rest.length + 1) ≤ 60001 := hn
        obtain ⟨p, r, m', h48', hc', hp', hr'⟩ := C48e (s := rest) (by omega)
        cases hd : ryP p with
        | none =>
          obtain ⟨dn, hdn, ha⟩ := hi.h
          have hdn : moreL m0 r0 = dn ++ p :: moreL m' r := by rw [hdn]; show dn ++ cutG 59 [] rest = _; rw [hc']
          rw [psV_r (by rw [hdn]; exact alL_bad hd)]
          rcases ryP_n hd with hn | ⟨a', b', c', d', e', hn, he⟩
          · obtain ⟨l, h46'⟩ := C46x hn (show p.length ≤ 1000000 by omega)
            (repeat' first | (refine Owe.same ?_; first | refine Owe.o ?_ | refine Owe.mk ?_ ?_) | (refine Fork.same ?_; (first | refine fkY ?_ | refine fkF ?_ | ((first | refine fkD ?_ ?_ | refine fkN ?_ ?_ | refine fkM ?_ ?_) <;> intro h))) | ((first | refine OpsL.same ?_ | refine OpsDL.same ?_); first | refine oK h48' rfl rfl rfl ?_ | refine oK h46' rfl rfl rfl ?_) | refine MvQ.stay ?_)
            (refine rqK rfl ?_; (repeat' first | exact rfl | (refine qS ?_; constructor)))
          · have h46' := C46y hn (show p.length ≤ 1000000 by omega)
            have he4 : 1 < [a', b', c', d', e'].getD (Int.toNat 4) 0 := he
            (repeat' first | (refine Owe.same ?_; first | refine Owe.o ?_ | refine Owe.mk ?_ ?_) | (refine Fork.same ?_; (first | refine fkY ?_ | refine fkF ?_ | ((first | refine fkD ?_ ?_ | refine fkN ?_ ?_ | refine fkM ?_ ?_) <;> intro h))) | ((first | refine OpsL.same ?_ | refine OpsDL.same ?_); first | refine oK h48' rfl rfl rfl ?_ | refine oK h46' rfl rfl rfl ?_) | refine MvQ.stay ?_)
            (refine rqK rfl ?_; (repeat' first | exact rfl | (refine qS ?_; constructor)))
        | some q =>
          obtain ⟨e', hn', he, hq⟩ := ryP_y hd
          have h46' := C46y hn' (show p.length ≤ 1000000 by omega)
          have he4 : [q.1.1, q.1.2, q.2.1.1, q.2.1.2, e'].getD (Int.toNat 4) 0 ≤ 1 := he
          have hi2 : Hd (∃ dn, moreL m0 r0 = dn ++ moreL m' r ∧ alL ryP dn = some (acc ++ [q])) := by
            obtain ⟨dn, hdn, ha⟩ := hi.h
            have hdn : moreL m0 r0 = dn ++ p :: moreL m' r := by rw [hdn]; show dn ++ cutG 59 [] rest = _; rw [hc']
            exact ⟨dn ++ [p], by rw [hdn]; simp, by rw [alL_app ha, hd]⟩
          have hd := Hd.mk hd
          have hc' := Hd.mk hc'
          (repeat' first | (refine Owe.same ?_; first | refine Owe.o ?_ | refine Owe.mk ?_ ?_) | (refine Fork.same ?_; (first | refine fkY ?_ | refine fkF ?_ | ((first | refine fkD ?_ ?_ | refine fkN ?_ ?_ | refine fkM ?_ ?_) <;> intro h))) | ((first | refine OpsL.same ?_ | refine OpsDL.same ?_); first | refine oK h48' rfl rfl rfl ?_ | refine oK h46' rfl rfl rfl ?_) | refine MvQ.stay ?_)
          refine again (acc ++ [q], r, m') [0, 1, 4] ⟨?_, hi2⟩ ?_ ?_
          · cases m' with
            | true => have := hr' rfl; show (acc ++ [q]).length + (r.length + 1) ≤ 60001; simp; omega
            | false => show (acc ++ [q]).length + 0 ≤ 60001; simp; omega
          · cases m' with
            | true => have := hr' rfl; show r.length + 1 < rest.length + 1; omega
            | false => show 0 < rest.length + 1; omega
          (refine qis ?_ ?_ <;> (repeat' first | exact rfl | (refine qS ?_; constructor)))
          · simp
          · refine ⟨q, ?_, rfl⟩
            show [dI q.1.1, dI q.1.2, dI q.2.1.1, dI q.2.1.2, D.v (Value.bool (decide (e' = 1)))] = r5 q
            rw [← hq]
end Go.Pw

set_option linter.unusedSimpArgs false
set_option linter.unusedVariables false
namespace Go.Pw
open Go.RowKit Go.Lib
set_option maxRecDepth 2000
open Go Go.Proofs A1 A2 A3 A4
/-- A contract over data, as a call from a memory all of which may be read. -/
theorem PFD.calls {P : Program} {f : FuncId} {args : List V} {v : V} (h : PFD P f args v) {w : World} {us : Array Value} (hlay : LayOk (fun k => k < w.heap.size) w)
    (hr : RepL ⟨fun k => k < w.heap.size, fun _ => none, fun _ => none⟩ w args us) : Calls P f us w fun e w' => ∃ u Γ', e = .returned u ∧ RepV Γ' w' v u ∧ Below w.heap.size w w' := by
  obtain ⟨hent, _, hc⟩ := h.h
  have hst : StoreOk ⟨fun k => k < w.heap.size, fun _ => none, fun _ => none⟩ w [] := storeOk_nil (fun k hk => hk) hlay
  refine (hc _ w us hst (fun _ _ _ => rfl) hr).mono fun e w' ⟨u, Γ', he, hv, _, _, _, hx⟩ => ⟨u, Γ', he, hv, ⟨hx.os, hx.tape, hx.output, hx.size, fun k hk => hx.keep k hk not_live_nil⟩⟩
theorem words_calls {l : List Int} (hl : l.length ≤ 1000 ∧ ∀ n ∈ l, i64P n) {w : World} (hlay : LayOk (fun k => k < w.heap.size) w) (N c : Nat) (hN : N < w.heap.size) (hcc : l.length ≤ c) (hcell : ∀ (j : Nat) n, l[j]? = some n → w.cell? ⟨N, j, none⟩ = some (.int .i64 n)) :
    Calls Tryz.prog 41 #[.slice (some ⟨N, 0, none⟩) l.length c] w fun e w' => e = .returned (.string (bs (wdS l))) ∧ Below w.heap.size w w' := by
  refine ((C41 hl).calls hlay ⟨rfl, fun j v u hv hu => ?_⟩).mono fun e w' ⟨u, Γ', he, hv, hB⟩ => ⟨by rw [he, hv.vv], hB⟩
  match j, hv, hu with
  | 0, hv, hu =>
    cases hv; cases hu
    refine .c _ _ ?_
    show RepD _ w (.sl 1 l.length fun i => r1 (l.getD i 0)) _
    refine .sl 1 l.length _ ⟨N, 0, none⟩ c (fun i _ => .int .i64 (l.getD i 0)) hcc hN (fun _ _ => rfl) (fun i j d hi hd => ?_) (fun i j d hi hd => ?_)
    · have hj : j = 0 := by
        have := (List.getElem?_eq_some_iff.1 hd).1
        simp at this; omega
      subst hj
      have := hcell i (l.getD i 0) (by rw [List.getD_eq_getElem?_getD, List.getElem?_eq_getElem hi]; rfl)
      have e : (Addr.mk N 0 none).add (i * 1 + 0) = ⟨N, i, none⟩ := by
        rw [Nat.mul_one, Nat.add_zero]
        unfold Addr.add
        split
        · rename_i h0; subst h0; rfl
        · simp
      rw [e]; exact this
    · have hj : j = 0 := by
        have := (List.getElem?_eq_some_iff.1 hd).1
        simp at this; omega
      subst hj
      cases hd
      exact .v _ rfl
  | j + 1, hv, hu => cases hv
theorem lay_below {w w' : World} (h : LayOk (fun k => k < w.heap.size) w) (hB : Below w.heap.size w w') : LayOk (fun k => k < w'.heap.size) w' := by
  obtain ⟨W0, h1, h2⟩ := h
  exact ⟨W0, h1, fun k hk => ⟨Nat.lt_of_lt_of_le (h2 k hk).1 hB.size, (hB.block k (h2 k hk).1).trans (h2 k hk).2⟩⟩
theorem bytes_bs (l : By) : strCells (bs l) = byteCells l := by rw [strCells_eq]
/-- Behind the words of the first two numbers: in the builder. -/
theorem head_calls {a b : Int} (ha : i64P a) (hb : i64P b) {w : World} (hlay : LayOk (fun k => k < w.heap.size) w) (x : Value) :
    Calls Tryz.prog 41 #[.slice (some ⟨w.heap.size + 2, 0, none⟩) 2 2] (((w.alloc (.cells #[.int .i64 a, .int .i64 b, x] 25)).alloc (.cells #[.pointer none, .slice none 0 0] 96)).alloc (.cells #[.int .i64 a, .int .i64 b] 3))
      fun e w' => e = .returned (.string (bs (wdS [a, b]))) ∧ Below (w.heap.size + 3) (((w.alloc (.cells #[.int .i64 a, .int .i64 b, x] 25)).alloc (.cells #[.pointer none, .slice none 0 0] 96)).alloc (.cells #[.int .i64 a, .int .i64 b] 3)) w' := by
  have hB : Below w.heap.size w (((w.alloc (.cells #[.int .i64 a, .int .i64 b, x] 25)).alloc (.cells #[.pointer none, .slice none 0 0] 96)).alloc (.cells #[.int .i64 a, .int .i64 b] 3)) :=
    (((Below.refl _ w).alloc (Nat.le_refl _) _).alloc (by simp) _).alloc (by simp; omega) _
  have hsz : (((w.alloc (.cells #[.int .i64 a, .int .i64 b, x] 25)).alloc (.cells #[.pointer none, .slice none 0 0] 96)).alloc (.cells #[.int .i64 a, .int .i64 b] 3)).heap.size = w.heap.size + 3 := by simp
  have h := words_calls (l := [a, b]) ⟨by simp, fun n hn => by
    simp only [List.mem_cons, List.not_mem_nil, or_false] at hn
    rcases hn with rfl | rfl <;> assumption⟩ (lay_below hlay hB) (w.heap.size + 2) 2 (by rw [hsz]; omega) (by simp) (fun j n hj => by
      have hh := heap_alloc_new' ((w.alloc (.cells #[.int .i64 a, .int .i64 b, x] 25)).alloc (.cells #[.pointer none, .slice none 0 0] 96)) (.cells #[.int .i64 a, .int .i64 b] 3)
      rw [show ((w.alloc (.cells #[.int .i64 a, .int .i64 b, x] 25)).alloc (.cells #[.pointer none, .slice none 0 0] 96)).heap.size = w.heap.size + 2 by simp] at hh
      rw [Lib.cell_of_heap hh]
      match j, hj with
      | 0, hj => cases hj; rfl
      | 1, hj => cases hj; rfl
      | j + 2, hj => simp at hj)
  rw [hsz] at h
  exact h
/-- The builder as it was laid. -/
theorem fresh_bld {a b : Int} {x : Value} {w W1 : World} (b1 : Below (w.heap.size + 3) (((w.alloc (.cells #[.int .i64 a, .int .i64 b, x] 25)).alloc (.cells #[.pointer none, .slice none 0 0] 96)).alloc (.cells #[.int .i64 a, .int .i64 b] 3)) W1) :
    IsBuilderF 96 5 w.heap.size (w.heap.size + 1) [] W1 := by
  refine .inl ⟨by omega, .slice none 0 0, ?_, World.ownsRowF_nil _ _ _ _, by simp [Value.ownBlock]⟩
  rw [b1.block (w.heap.size + 1) (by omega), heap_alloc (by simp)]
  have h := heap_alloc_new' (w.alloc (.cells #[.int .i64 a, .int .i64 b, x] 25)) (.cells #[.pointer none, .slice none 0 0] 96)
  rw [show (w.alloc (.cells #[.int .i64 a, .int .i64 b, x] 25)).heap.size = w.heap.size + 1 by simp] at h
  exact h
theorem scene_blk {a b : Int} {x : Value} {w W1 : World} (b1 : Below (w.heap.size + 3) (((w.alloc (.cells #[.int .i64 a, .int .i64 b, x] 25)).alloc (.cells #[.pointer none, .slice none 0 0] 96)).alloc (.cells #[.int .i64 a, .int .i64 b] 3)) W1) :
    W1.heap[w.heap.size]? = some (.cells #[.int .i64 a, .int .i64 b, x] 25 (0, 0)) := by
  rw [b1.block w.heap.size (by omega), heap_alloc (by simp; omega), heap_alloc (by simp)]
  exact heap_alloc_new' w _
theorem below_3 {a b : Int} {x : Value} {w W1 : World} (b1 : Below (w.heap.size + 3) (((w.alloc (.cells #[.int .i64 a, .int .i64 b, x] 25)).alloc (.cells #[.pointer none, .slice none 0 0] 96)).alloc (.cells #[.int .i64 a, .int .i64 b] 3)) W1) : Below w.heap.size w W1 := by
  have hB : Below w.heap.size w (((w.alloc (.cells #[.int .i64 a, .int .i64 b, x] 25)).alloc (.cells #[.pointer none, .slice none 0 0] 96)).alloc (.cells #[.int .i64 a, .int .i64 b] 3)) :=
    (((Below.refl _ w).alloc (Nat.le_refl _) _).alloc (by simp) _).alloc (by simp; omega) _
  exact ⟨b1.os.trans hB.os, b1.tape.trans hB.tape, b1.output.trans hB.output, Nat.le_trans hB.size b1.size, fun k hk => (b1.block k (by omega)).trans (hB.block k hk)⟩
/-- The words of a ray. -/
theorem ray_calls {x1 x2 x3 x4 x5 : Int} (h1 : i64P x1) (h2 : i64P x2) (h3 : i64P x3) (h4 : i64P x4) (h5 : i64P x5) {w : World} (hlay : LayOk (fun k => k < w.heap.size) w) (xs : Array Value) (t : TypeId) :
    Calls Tryz.prog 41 #[.slice (some ⟨w.heap.size + 1, 0, none⟩) 5 5] ((w.alloc (.cells xs t)).alloc (.cells #[.int .i64 x1, .int .i64 x2, .int .i64 x3, .int .i64 x4, .int .i64 x5] 3))
      fun e w' => e = .returned (.string (bs (wdS [x1, x2, x3, x4, x5]))) ∧ Below (w.heap.size + 2) ((w.alloc (.cells xs t)).alloc (.cells #[.int .i64 x1, .int .i64 x2, .int .i64 x3, .int .i64 x4, .int .i64 x5] 3)) w' := by
  have hB : Below w.heap.size w ((w.alloc (.cells xs t)).alloc (.cells #[.int .i64 x1, .int .i64 x2, .int .i64 x3, .int .i64 x4, .int .i64 x5] 3)) :=
    ((Below.refl _ w).alloc (Nat.le_refl _) _).alloc (by simp) _
  have hsz : ((w.alloc (.cells xs t)).alloc (.cells #[.int .i64 x1, .int .i64 x2, .int .i64 x3, .int .i64 x4, .int .i64 x5] 3)).heap.size = w.heap.size + 2 := by simp
  have h := words_calls (l := [x1, x2, x3, x4, x5]) ⟨by simp, i64_5 h1 h2 h3 h4 h5⟩ (lay_below hlay hB) (w.heap.size + 1) 5 (by rw [hsz]; omega) (by simp) (fun j n hj => by
      have hh := heap_alloc_new' (w.alloc (.cells xs t)) (.cells #[.int .i64 x1, .int .i64 x2, .int .i64 x3, .int .i64 x4, .int .i64 x5] 3)
      rw [show (w.alloc (.cells xs t)).heap.size = w.heap.size + 1 by simp] at hh
      rw [Lib.cell_of_heap hh]
      match j, hj with
      | 0, hj => cases hj; rfl
      | 1, hj => cases hj; rfl
      | 2, hj => cases hj; rfl
      | 3, hj => cases hj; rfl
      | 4, hj => cases hj; rfl
      | j + 5, hj => simp at hj)
  rw [hsz] at h
  exact h
theorem bld_keep {B b : Nat} {p : Value} {bs : List Value} {w w' : World} (h : BuilderAtF 96 5 B b p bs w) (hk : ∀ k, k < w.heap.size → w'.heap[k]? = w.heap[k]?) : BuilderAtF 96 5 B b p bs w' := by
  obtain ⟨hB, v, hb, ⟨h1, h2⟩, hne⟩ := h
  refine ⟨hB, v, (hk b (Array.getElem?_eq_some_iff.1 hb).1).trans hb, ⟨h1, ?_⟩, hne⟩
  rcases h2 with h2 | ⟨g, cap, cur, fz, q1, q2, q3, q4⟩
  · exact .inl h2
  · exact .inr ⟨g, cap, cur, fz, q1, q2, (hk g (Array.getElem?_eq_some_iff.1 q3).1).trans q3, q4⟩
theorem below_le {B B' : Nat} {w w' : World} (h : Below B w w') (hB : B' ≤ B) : Below B' w w' := ⟨h.os, h.tape, h.output, h.size, fun k hk => h.block k (Nat.lt_of_lt_of_le hk hB)⟩
theorem cell_r {I : Nat → Prop} {w wr : World} {bk o i j : Nat} {x0 : Value} (hbw : Below w.heap.size w wr) (hbk : bk < w.heap.size) (h : ∃ x, w.cell? ⟨bk, o + (i + j), none⟩ = some x ∧ RepD I w (.v x0) x) : wr.cell? ⟨bk, o + i + j, none⟩ = some x0 := by
  obtain ⟨x, hx, hd⟩ := h
  cases hd
  rw [Nat.add_assoc]
  exact (hbw.cell hbk).trans hx
theorem below_ray {xs ys : Array Value} {t u : TypeId} {w V : World} (b1 : Below (w.heap.size + 2) ((w.alloc (.cells xs t)).alloc (.cells ys u)) V) : Below w.heap.size w V := by
  have hB : Below w.heap.size w ((w.alloc (.cells xs t)).alloc (.cells ys u)) :=
    ((Below.refl _ w).alloc (Nat.le_refl _) _).alloc (by simp) _
  exact ⟨b1.os.trans hB.os, b1.tape.trans hB.tape, b1.output.trans hB.output, Nat.le_trans hB.size b1.size, fun k hk => (b1.block k (by omega)).trans (hB.block k hk)⟩
set_option maxHeartbeats 4000000 in
set_option maxRecDepth 1000000 in
theorem fmt_walk {I : Nat → Prop} {a b : Int} {l : List Ry} (hs : l.length ≤ 1000 ∧ w64S (a, b, l)) (A : Option Addr) (c : Nat) (w : World) (hlay : LayOk (fun k => k < w.heap.size) w)
    (hcell : ∀ i r, l[i]? = some r → ∃ bk o, A = some ⟨bk, o, none⟩ ∧ bk < w.heap.size ∧ ∀ j d, (r5 r)[j]? = some d → ∃ x, w.cell? ⟨bk, o + (i * 5 + j), none⟩ = some x ∧ RepD I w d x) :
    Calls Tryz.prog 10 #[.agg #[.int .i64 a, .int .i64 b, .slice A l.length c]] w fun e w' => e = .returned (.string (bs (scS (a, b, l)))) ∧ Below w.heap.size w w' := by
  go_enter Tryz.func10, Tryz.ntmps10
  go_wp2_with (go_at_call 41; refine (head_calls hs.2.1 hs.2.2.1 hlay _).mono ?_)
  rintro e W1 ⟨rfl, b1⟩
  intro b1
  have hwl := hd_len hs.2.1 hs.2.2.1
  have hsz := bs_size (wdS [a, b])
  go_wp2_with (go_at_call 43; refine (sh_Builder_WriteString_k w.heap.size (w.heap.size + 1) [] (bs (wdS [a, b])) W1 (fresh_bld b1) (by simp; omega) (below_3 b1).size).mono ?_)
  rintro e W2 ⟨rfl, h2, b2, k2⟩
  have hB2 : Below w.heap.size w W2 := (below_3 b1).trans b2
  rw [List.nil_append, bytes_bs] at h2
  have hI2 := k2 w.heap.size _ (scene_blk b1) (by intro e; injection e with e; omega) (by intro _ _ e; injection e with _ e; cases e)
  have c2 : W2.cell? ⟨w.heap.size, 2, none⟩ = some (.slice A l.length c) := by rw [Lib.cell_of_heap hI2]; rfl
  have hl1 : l.length ≤ 9223372036854775807 := by have := hs.1; omega
  clear b1 b2 k2 hI2
  go_wp2
  have h20 : scS (a, b, l.take 0) = wdS [a, b] := rfl
  go_loopw [17] (fun i wr => ∃ k : Nat, k ≤ l.length ∧ i = .int .i64 k ∧ BuilderAtF 96 5 w.heap.size (w.heap.size + 1) (.pointer (some ⟨w.heap.size + 1, 0, none⟩)) (byteCells (scS (a, b, l.take k))) wr ∧ Below w.heap.size w wr)
    (fun i _ => l.length - (RowKit.intOf i).toNat)
  case atStart => exact ⟨0, Nat.zero_le _, rfl, h20 ▸ h2, hB2⟩
  case round =>
    obtain ⟨k, hk, rfl, hbl, hbw⟩ := hrel
    by_cases hlt : k < l.length
    · obtain ⟨bk, o, rfl, hbk, hc⟩ := hcell k (l.getD k ryd) (by rw [List.getD_eq_getElem?_getD, List.getElem?_eq_getElem hlt]; rfl)
      have hi := hs.2.2.2 _ (getD_mem ryd hlt)
      have hstep := Hd.mk (sc_step (a := a) (b := b) hlt)
      have hw := lay_below hlay hbw
      obtain ⟨r, hr⟩ : ∃ r, l.getD k ryd = r := ⟨_, rfl⟩
      rw [hr] at hc hi hstep
      obtain ⟨⟨x1, x2⟩, ⟨x3, x4⟩, hb⟩ := r
      clear hr
      have w1 : wr.cell? ⟨bk, o + k * 5, none⟩ = some (.int .i64 x1) := cell_r hbw hbk (hc 0 (dI x1) rfl)
      have w2 : wr.cell? ⟨bk, o + k * 5 + 1, none⟩ = some (.int .i64 x2) := cell_r hbw hbk (hc 1 (dI x2) rfl)
      have w3 : wr.cell? ⟨bk, o + k * 5 + 2, none⟩ = some (.int .i64 x3) := cell_r hbw hbk (hc 2 (dI x3) rfl)
      have w4 : wr.cell? ⟨bk, o + k * 5 + 3, none⟩ = some (.int .i64 x4) := cell_r hbw hbk (hc 3 (dI x4) rfl)
      have w5 : wr.cell? ⟨bk, o + k * 5 + 4, none⟩ = some (.bool hb) := cell_r hbw hbk (hc 4 (.v (.bool hb)) rfl)
      clear hc
      cases hb with
      | true =>
        go_wp2_with (go_at_call 41; refine (ray_calls hi.1.1 hi.1.2 hi.2.1 hi.2.2 (by decide) hw _ _).mono ?_)
        rintro e V1 ⟨rfl, b1⟩
        intro b1
        have b2 := below_ray b1
        have hbl1 := bld_keep hbl b2.block
        have hll : (scS (a, b, l.take k)).length ≤ 200000 := by
          have := sc_len (s := (a, b, l.take k)) ⟨hs.2.1, hs.2.2.1, fun r hr => hs.2.2.2 r (List.mem_of_mem_take hr)⟩
          simp only [List.length_take] at this
          have := hs.1
          omega
        have hwl : (wdS [x1, x2, x3, x4, 1]).length ≤ 110 := ry_len (r := ((x1, x2), (x3, x4), true)) hi
        have hno : ¬ 9223372036854775807 < 1 + (wdS [x1, x2, x3, x4, 1]).length := by omega
        clear b1
        go_wp2_with (go_at_call 43; refine (sh_Builder_WriteString_k w.heap.size (w.heap.size + 1) _ _ V1 (.inr hbl1) ?_ (Nat.le_trans hbw.size b2.size)).mono ?_)
        · rw [byteCells_length]
          have h3 : ((ByteArray.mk #[59]) ++ bs (wdS [x1, x2, x3, x4, 1])).size = 1 + (wdS [x1, x2, x3, x4, 1]).length := by
            rw [show (ByteArray.mk #[59]) = bs [59] from rfl, bs_app, bs_size]; simp; omega
          rw [h3]; omega
        rintro e V2 ⟨rfl, h3, b3, k3⟩
        have hB3 := (hbw.trans (below_le b2 hbw.size)).trans b3
        have h3 : BuilderAtF 96 5 w.heap.size (w.heap.size + 1) (.pointer (some ⟨w.heap.size + 1, 0, none⟩)) (byteCells (scS (a, b, l.take (k + 1)))) V2 := by
          rw [hstep.h, byteCells_append]
          rw [show (ByteArray.mk #[59]) = bs [59] from rfl, bs_app, bytes_bs] at h3
          exact h3
        clear b2 b3 k3 hbl1
        go_wp2
        go_roundw
        case rel => exact ⟨k + 1, hlt, by go_num, h3, hB3⟩
        case measure => simp [RowKit.intOf]; omega
      | false =>
        go_wp2_with (go_at_call 41; refine (ray_calls hi.1.1 hi.1.2 hi.2.1 hi.2.2 (by decide) hw _ _).mono ?_)
        rintro e V1 ⟨rfl, b1⟩
        intro b1
        have b2 := below_ray b1
        have hbl1 := bld_keep hbl b2.block
        have hll : (scS (a, b, l.take k)).length ≤ 200000 := by
          have := sc_len (s := (a, b, l.take k)) ⟨hs.2.1, hs.2.2.1, fun r hr => hs.2.2.2 r (List.mem_of_mem_take hr)⟩
          simp only [List.length_take] at this
          have := hs.1
          omega
        have hwl : (wdS [x1, x2, x3, x4, 0]).length ≤ 110 := ry_len (r := ((x1, x2), (x3, x4), false)) hi
        have hno : ¬ 9223372036854775807 < 1 + (wdS [x1, x2, x3, x4, 0]).length := by omega
        clear b1
        go_wp2_with (go_at_call 43; refine (sh_Builder_WriteString_k w.heap.size (w.heap.size + 1) _ _ V1 (.inr hbl1) ?_ (Nat.le_trans hbw.size b2.size)).mono ?_)
        · rw [byteCells_length]
          have h3 : ((ByteArray.mk #[59]) ++ bs (wdS [x1, x2, x3, x4, 0])).size = 1 + (wdS [x1, x2, x3, x4, 0]).length := by
            rw [show (ByteArray.mk #[59]) = bs [59] from rfl, bs_app, bs_size]; simp; omega
          rw [h3]; omega
        rintro e V2 ⟨rfl, h3, b3, k3⟩
        have hB3 := (hbw.trans (below_le b2 hbw.size)).trans b3
        have h3 : BuilderAtF 96 5 w.heap.size (w.heap.size + 1) (.pointer (some ⟨w.heap.size + 1, 0, none⟩)) (byteCells (scS (a, b, l.take (k + 1)))) V2 := by
          rw [hstep.h, byteCells_append]
          rw [show (ByteArray.mk #[59]) = bs [59] from rfl, bs_app, bytes_bs] at h3
          exact h3
        clear b2 b3 k3 hbl1
        go_wp2
        go_roundw
        case rel => exact ⟨k + 1, hlt, by go_num, h3, hB3⟩
        case measure => simp [RowKit.intOf]; omega
    · have hk1 : k = l.length := by omega
      subst hk1
      rw [List.take_length] at hbl
      go_wp2_with (go_at_call 44; refine (sh_Builder_String_any_k w.heap.size (w.heap.size + 1) _ wr (.inr hbl) hbw.size).mono ?_)
      rintro e V ⟨rfl, _, b1, _⟩
      go_wp2
      go_ret
      exact ⟨rfl, hbw.trans b1⟩
theorem RepV.rays {Γ : Cx} {w : World} {l : List Ry} {u : Value} (hst : StoreOk Γ w []) (h : RepC Γ w (rys l) u) : ∃ A c, u = .slice A l.length c ∧
    ∀ i r, l[i]? = some r → ∃ bk o, A = some ⟨bk, o, none⟩ ∧ bk < w.heap.size ∧ ∀ j d, (r5 r)[j]? = some d → ∃ x, w.cell? ⟨bk, o + (i * 5 + j), none⟩ = some x ∧ RepD Γ.I w d x := by
  replace h : RepD Γ.I w (.sl 5 l.length fun i => r5 (l.getD i ryd)) u := h
  generalize hn : l.length = n at h
  cases h with
  | slE _ _ A c =>
    refine ⟨A, c, rfl, fun i r hr => ?_⟩
    rw [List.length_eq_zero_iff.1 hn] at hr
    simp at hr
  | sl _ _ _ ad c U hnc hI hs hc hr =>
    refine ⟨some ad, c, rfl, fun i r hx => ?_⟩
    have hi : i < n := by rw [← hn]; exact (List.getElem?_eq_some_iff.1 hx).1
    have e : l.getD i ryd = r := by rw [List.getD, hx]; rfl
    have key : ∀ j d, (r5 r)[j]? = some d → w.cell? (ad.add (i * 5 + j)) = some (U i j) ∧ RepD Γ.I w d (U i j) := fun j d hd => by
      have hd' : (r5 (l.getD i ryd))[j]? = some d := by rw [e]; exact hd
      exact ⟨hc i j d hi hd', hr i j d hi hd'⟩
    obtain ⟨bk, o, sp⟩ := ad
    have h0 : w.cell? ((Addr.mk bk o sp).add 0) = some (U 0 0) := hc 0 0 (dI (l.getD 0 ryd).1.1) (by omega) rfl
    have hsp : sp = none := by
      cases sp with
      | none => rfl
      | some q =>
        simp only [World.cell?, Addr.add] at h0
        split at h0
        · simp at h0
        · cases h0
    subst hsp
    refine ⟨bk, o, rfl, hst.im bk hI, fun j d hd => ⟨U i j, ?_, (key j d hd).2⟩⟩
    have e2 : (Addr.mk bk o none).add (i * 5 + j) = ⟨bk, o + (i * 5 + j), none⟩ := by
      unfold Addr.add
      split
      · rename_i h0; rw [h0]; rfl
      · rfl
    rw [← e2]; exact (key j d hd).1
theorem C10 {s : Sc} : (s.2.2.length ≤ 1000 ∧ w64S s) → PFD Tryz.prog 10 [scv s] (sv (scS s)) := fun hs => by
  obtain ⟨a, b, l⟩ := s
  refine pfd_below Tryz.call10 fun Γ w us hst hr => ?_
  obtain ⟨u, rfl, hu⟩ := hr.one
  cases hu with
  | agg _ us hl h =>
    obtain ⟨us⟩ := us
    match us, hl with
    | [u0, u1, u2], _ =>
      have q0 := h 0 _ u0 rfl rfl
      have q1 := h 1 _ u1 rfl rfl
      obtain ⟨A, c, rfl, hcell⟩ := RepV.rays hst (h 2 _ u2 rfl rfl)
      cases q0; cases q1
      have hlay : LayOk (fun k => k < w.heap.size) w := by
        obtain ⟨W0, h1, h2⟩ := hst.lay
        exact ⟨W0, h1, fun k hk => ⟨hst.im k (h2 k hk).1, (h2 k hk).2⟩⟩
      refine (fmt_walk hs A c w hlay hcell).mono ?_
      rintro e w' ⟨rfl, hB⟩
      exact ⟨_, rfl, hB, RepV.dv rfl⟩
end Go.Pw

set_option linter.unusedSimpArgs false
set_option linter.unusedVariables false
set_option maxHeartbeats 1000000
namespace Go.Pw
open Go.RowKit Go.Lib
set_option maxRecDepth 2000
open Go Go.Proofs A1 A2 A3 A4
theorem dec_len3 {u : Nat} (h : u ≤ 999) : (decDigits u).length ≤ 3 := by
  by_cases h1 : u < 10
  · rw [decDigits_one h1]; simp
  · rw [dec_big h1, List.length_append]
    by_cases h2 : u / 10 < 10
    · rw [decDigits_one h2]; simp
    · rw [dec_big h2, List.length_append]
      rw [decDigits_one (by omega)]; simp
theorem ntV_itoa {n : Int} (h0 : 0 ≤ n) (h1 : n ≤ 999) : ntV (itoa n) = some n := by
  have h : numV (itoa n) 3 = some n := (numV_iff (by decide)).2 ⟨rfl, by have := dec_len3 (u := n.natAbs) (by omega); omega⟩
  unfold ntV; rw [h]; simp [h0]
theorem ntL_wd : ∀ {l : List Int}, (∀ n ∈ l, 0 ≤ n ∧ n ≤ 999) → ntL (wdL l) = some l
  | [], _ => rfl
  | x :: l, h => by
    have hx := h x (by simp)
    have ih := ntL_wd (l := l) (fun n hn => h n (List.mem_cons_of_mem _ hn))
    show ntL (itoa x :: wdL l) = _
    rw [ntL, ntV_itoa hx.1 hx.2, ih]
theorem no32 (n : Int) : (32 : UInt8) ∉ itoa n := itoa_no (by decide)
theorem no59 (n : Int) : (59 : UInt8) ∉ itoa n := itoa_no (by decide)
theorem cut_wd {l : List Int} (h : l ≠ []) : cutG 32 [] (wdS l) = wdL l := cut_jn (by simpa using h) (fun x hx => by
  obtain ⟨n, _, rfl⟩ := List.mem_map.1 hx
  exact no32 n)
theorem ntN_wd {l : List Int} (h : ∀ n ∈ l, 0 ≤ n ∧ n ≤ 999) (hne : l ≠ []) {m : Int} (hm : (l.length : Int) = m) : ntN (wdS l) m = some l :=
  ntN_of (by rw [cut_wd hne]; exact ntL_wd h) (by rw [cut_wd hne, List.length_map]; exact hm)
theorem jn_no {c d : UInt8} (hcd : c ≠ d) : ∀ {l : List By}, (∀ x ∈ l, d ∉ x) → d ∉ jnG c l
  | [], _ => by simp [jnG]
  | [x], h => h x (by simp)
  | x :: y :: r, h => by
    rw [jn_cons (by simp), List.mem_append, List.mem_cons]
    intro hh
    rcases hh with h1 | h1 | h1
    · exact h x (by simp) h1
    · exact hcd h1.symm
    · exact jn_no hcd (fun z hz => h z (List.mem_cons_of_mem _ hz)) h1
theorem wd_no59 (l : List Int) : (59 : UInt8) ∉ wdS l := jn_no (by decide) (fun x hx => by
  obtain ⟨n, _, rfl⟩ := List.mem_map.1 hx
  exact no59 n)
theorem dvP_W {d : Tr3} (h : dvOk d) : dvP (dvW d) = some d := by
  obtain ⟨a, b, c⟩ := d
  have hn : ntN (dvW (a, b, c)) 3 = some [a, b, c] := ntN_wd (fun n hn => by
    simp only [List.mem_cons, List.not_mem_nil, or_false] at hn
    simp only [dvOk] at h
    rcases hn with rfl | rfl | rfl <;> omega) (by simp) rfl
  unfold dvP; rw [hn]
theorem alL_map {α : Type} {f : By → Option α} {g : α → By} : ∀ {l : List α}, (∀ x ∈ l, f (g x) = some x) → alL f (l.map g) = some l
  | [], _ => rfl
  | x :: l, h => by
    rw [List.map_cons, alL, h x (by simp), alL_map (fun y hy => h y (List.mem_cons_of_mem _ hy))]
theorem pdE_S {l : List Tr3} (h : (dvsE l).2 = 0) : pdE (dvS l) = (l, 0) := by
  have hO := dvsE_ok.1 h
  have hne : l ≠ [] := fun e => by subst e; exact absurd h (by decide)
  have hc : cutG 59 [] (dvS l) = l.map dvW := cut_jn (by simpa using hne) (fun x hx => by
    obtain ⟨d, _, rfl⟩ := List.mem_map.1 hx
    exact wd_no59 _)
  have ha : alL dvP (l.map dvW) = some l := alL_map (fun d hd => by
    obtain ⟨i, hi, rfl⟩ := List.getElem_of_mem hd
    have := hO.d i hi
    rw [List.getD_eq_getElem?_getD, List.getElem?_eq_getElem hi] at this
    exact dvP_W this)
  rw [pdE_good (l := l) (by rw [hc]; exact ha), if_pos h]
theorem ryP_W {r : Ry} {w g : Int} (hw : w ≤ 12) (hg : g ≤ 12) (h : ryOk r w g) : ryP (ryW r) = some r := by
  obtain ⟨⟨a, b⟩, ⟨c, d⟩, e⟩ := r
  obtain ⟨⟨h1, h2⟩, h3, h4⟩ := h
  simp only at h1 h2 h3 h4
  have hb : 0 ≤ b01 e ∧ b01 e ≤ 1 := by cases e <;> decide
  have hn : ntN (ryW ((a, b), (c, d), e)) 5 = some [a, b, c, d, b01 e] := ntN_wd (fun n hn => by
    simp only [List.mem_cons, List.not_mem_nil, or_false] at hn
    rcases hn with rfl | rfl | rfl | rfl | rfl <;> omega) (by simp) rfl
  unfold ryP; rw [hn]
  simp only [hb.2, if_true]
  cases e <;> rfl
theorem psE_S {s : Sc} (h : (scE s).2 = 0) : psE (scS s) = (s, 0) := by
  obtain ⟨w, g, l⟩ := s
  obtain ⟨hg, hr⟩ := scE_ok.1 h
  have hg := gridE_ok.1 hg
  simp only at hg hr
  have hc : cutG 59 [] (scS (w, g, l)) = wdS [w, g] :: l.map ryW := cut_jn (by simp) (fun x hx => by
    rcases List.mem_cons.1 hx with h1 | h1
    · subst h1; exact wd_no59 _
    · obtain ⟨d, _, rfl⟩ := List.mem_map.1 h1
      exact wd_no59 _)
  have hh : hdP (wdS [w, g]) = some (w, g) := by
    have hn : ntN (wdS [w, g]) 2 = some [w, g] := ntN_wd (fun n hn => by
      simp only [List.mem_cons, List.not_mem_nil, or_false] at hn
      rcases hn with rfl | rfl <;> omega) (by simp) rfl
    unfold hdP; rw [hn]
  rw [psE_of hc, psV_y hh (alL_map fun r hr' => ryP_W (by omega) (by omega) (hr r hr')), if_pos h]
end Go.Pw

set_option linter.unusedSimpArgs false
set_option linter.unusedVariables false
namespace Go.Pw
set_option maxRecDepth 2000
open Go Go.Proofs A1 A2 A3 A4
end Go.Pw

set_option linter.unusedSimpArgs false
set_option linter.unusedVariables false
set_option maxHeartbeats 4000000
namespace Go.Pw
set_option maxRecDepth 2000
open Go Go.Proofs A1 A2 A3 A4
end Go.Pw

set_option linter.unusedSimpArgs false
set_option linter.unusedVariables false
set_option maxHeartbeats 1000000
namespace Go.Pw
open Go.RowKit Go.Lib
set_option maxRecDepth 2000
open Go Go.Proofs A1 A2 A3 A4
theorem alL_len {α : Type} {f : By → Option α} : ∀ {l : List By} {a : List α}, alL f l = some a → a.length = l.length
  | [], a, h => by cases h; rfl
  | x :: l, a, h => by
    rw [alL] at h
    split at h
    · rename_i n m hn hm
      cases h
      rw [List.length_cons, List.length_cons, alL_len hm]
    · cases h
theorem pdE_len (s : By) : (pdE s).1.length ≤ s.length + 1 := by
  have hc := cut_count (c := 59) (l := s) (acc := [])
  unfold pdE
  split
  · simp
  · rename_i l hl
    have := alL_len hl
    split
    · show l.length ≤ _; omega
    · simp
theorem psE_len (s : By) : (psE s).1.2.2.length ≤ s.length + 1 := by
  have hc := cut_count (c := 59) (l := s) (acc := [])
  unfold psE
  split
  · simp
  · rename_i h r hr
    rw [hr, List.length_cons] at hc
    unfold psV
    split
    · rename_i a b l h1 h2
      have := alL_len h2
      split
      · show l.length ≤ _; omega
      · simp
    · simp
theorem C3 {l : List Tr3} {x : Sc} {s : By} (hl : ∀ d ∈ l, w64P d) (hx : w64S x) : PFD Tryz.prog 3 [.c (trs l), scv x, sv s] (vbl true) := by
  have hsz : (bs s).size = s.length := bs_size s
  have c5 := C5
  have c6 := C6 (l := l)
  have c7 := C7 (s := x)
  by_cases g1 : (l.length : Int) ≤ 7
  · by_cases g2 : (x.2.2.length : Int) ≤ 12
    · by_cases g3 : (s.length : Int) ≤ 200
      · rw [decide_eq_true g1] at c6
        rw [decide_eq_true g2] at c7
        have c9 := C9 (l := l) (by omega)
        have c8 := C8 ⟨(show l.length ≤ 1000 by omega), hl⟩
        have c11 := C11 (s := x) (by omega)
        have c10 := C10 ⟨(show x.2.2.length ≤ 1000 by omega), hx⟩
        have c12 := C12 (s := s) (by omega)
        have c13 := C13 (s := s) (by omega)
        have c14 := C14 (s := s) (by omega)
        have c15 := C15 (s := s) (by omega)
        have c16 := C16 ⟨(show l.length ≤ 1000 by omega), hl⟩
        have c17 := C17 ⟨(show x.2.2.length ≤ 1000 by omega), hx⟩
        have k1 := dv_len hl
        have k2 := sc_len hx
        have c12b := C12 (s := dvS l) (by omega)
        have c13b := C13 (s := scS x) (by omega)
        have p1 : (dvsE l).2 = 0 → pdE (dvS l) = (l, 0) := pdE_S
        have p2 : (scE x).2 = 0 → psE (scS x) = (x, 0) := psE_S
        have c20 := C20 (l := l)
        have c21 := C21 (s := x)
        have n1 := pdE_len s
        have n2 := psE_len s
        have c18 := C18 (l := (pdE s).1) (m := (pdE s).1) (by omega)
        have c19 := C19 (a := (psE s).1) (b := (psE s).1) (by omega)
        rw [decide_eq_true rfl] at c18 c19
        have c18l := C18 (l := l) (m := l) (by omega)
        have c19x := C19 (a := x) (b := x) (by omega)
        rw [decide_eq_true rfl] at c18l c19x
        generalize dvS l = A at *
        generalize scS x = B at *
        generalize pdE s = Y at *
        generalize psE s = Z at *
        generalize (dvsE l).2 = d1 at *
        generalize (scE x).2 = d2 at *
        obtain ⟨Y, e⟩ := Y
        obtain ⟨Z, f⟩ := Z
        clear k1 k2 n1 n2 hl hx
        by_cases e1 : d1 = 0
        · rw [p1 e1] at c12b
          by_cases e2 : d2 = 0
          · rw [p2 e2] at c13b
            rw [e1] at c20
            rw [e2] at c21
            clear p1 p2
            refine pi1 fn3 ?_
            (repeat' first | (refine Owe.same ?_; first | refine Owe.o ?_ | refine Owe.mk ?_ ?_) | (refine Fork.same ?_; (first | refine fkY ?_ | refine fkF ?_ | ((first | refine fkD ?_ ?_ | refine fkN ?_ ?_ | refine fkM ?_ ?_) <;> intro h))) | ((first | refine OpsL.same ?_ | refine OpsDL.same ?_); first | refine oK c5 rfl rfl rfl ?_ | refine oK c6 rfl rfl rfl ?_ | refine oK c7 rfl rfl rfl ?_ | refine oK c9 rfl rfl rfl ?_ | refine oK c8 rfl rfl rfl ?_ | refine oK c11 rfl rfl rfl ?_ | refine oK c10 rfl rfl rfl ?_ | refine oK c12 rfl rfl rfl ?_ | refine oK c13 rfl rfl rfl ?_ | refine oK c14 rfl rfl rfl ?_ | refine oK c15 rfl rfl rfl ?_ | refine oK c16 rfl rfl rfl ?_ | refine oK c17 rfl rfl rfl ?_ | refine oK c18 rfl rfl rfl ?_ | refine oK c19 rfl rfl rfl ?_ | refine oK c20 rfl rfl rfl ?_ | refine oK c21 rfl rfl rfl ?_ | refine oK c12b rfl rfl rfl ?_ | refine oK c13b rfl rfl rfl ?_ | refine oK c18l rfl rfl rfl ?_ | refine oK c19x rfl rfl rfl ?_) | refine MvQ.stay ?_)
            (refine rqK rfl ?_; (repeat' first | exact rfl | (refine qS ?_; constructor)))
          · rw [e1] at c20
            clear p1 p2
            refine pi1 fn3 ?_
            (repeat' first | (refine Owe.same ?_; first | refine Owe.o ?_ | refine Owe.mk ?_ ?_) | (refine Fork.same ?_; (first | refine fkY ?_ | refine fkF ?_ | ((first | refine fkD ?_ ?_ | refine fkN ?_ ?_ | refine fkM ?_ ?_) <;> intro h))) | ((first | refine OpsL.same ?_ | refine OpsDL.same ?_); first | refine oK c5 rfl rfl rfl ?_ | refine oK c6 rfl rfl rfl ?_ | refine oK c7 rfl rfl rfl ?_ | refine oK c9 rfl rfl rfl ?_ | refine oK c8 rfl rfl rfl ?_ | refine oK c11 rfl rfl rfl ?_ | refine oK c10 rfl rfl rfl ?_ | refine oK c12 rfl rfl rfl ?_ | refine oK c13 rfl rfl rfl ?_ | refine oK c14 rfl rfl rfl ?_ | refine oK c15 rfl rfl rfl ?_ | refine oK c16 rfl rfl rfl ?_ | refine oK c17 rfl rfl rfl ?_ | refine oK c18 rfl rfl rfl ?_ | refine oK c19 rfl rfl rfl ?_ | refine oK c20 rfl rfl rfl ?_ | refine oK c21 rfl rfl rfl ?_ | refine oK c12b rfl rfl rfl ?_ | refine oK c13b rfl rfl rfl ?_ | refine oK c18l rfl rfl rfl ?_ | refine oK c19x rfl rfl rfl ?_) | refine MvQ.stay ?_)
            (refine rqK rfl ?_; (repeat' first | exact rfl | (refine qS ?_; constructor)))
        · by_cases e2 : d2 = 0
          · rw [p2 e2] at c13b
            rw [e2] at c21
            clear p1 p2
            refine pi1 fn3 ?_
            (repeat' first | (refine Owe.same ?_; first | refine Owe.o ?_ | refine Owe.mk ?_ ?_) | (refine Fork.same ?_; (first | refine fkY ?_ | refine fkF ?_ | ((first | refine fkD ?_ ?_ | refine fkN ?_ ?_ | refine fkM ?_ ?_) <;> intro h))) | ((first | refine OpsL.same ?_ | refine OpsDL.same ?_); first | refine oK c5 rfl rfl rfl ?_ | refine oK c6 rfl rfl rfl ?_ | refine oK c7 rfl rfl rfl ?_ | refine oK c9 rfl rfl rfl ?_ | refine oK c8 rfl rfl rfl ?_ | refine oK c11 rfl rfl rfl ?_ | refine oK c10 rfl rfl rfl ?_ | refine oK c12 rfl rfl rfl ?_ | refine oK c13 rfl rfl rfl ?_ | refine oK c14 rfl rfl rfl ?_ | refine oK c15 rfl rfl rfl ?_ | refine oK c16 rfl rfl rfl ?_ | refine oK c17 rfl rfl rfl ?_ | refine oK c18 rfl rfl rfl ?_ | refine oK c19 rfl rfl rfl ?_ | refine oK c20 rfl rfl rfl ?_ | refine oK c21 rfl rfl rfl ?_ | refine oK c12b rfl rfl rfl ?_ | refine oK c13b rfl rfl rfl ?_ | refine oK c18l rfl rfl rfl ?_ | refine oK c19x rfl rfl rfl ?_) | refine MvQ.stay ?_)
            (refine rqK rfl ?_; (repeat' first | exact rfl | (refine qS ?_; constructor)))
          · clear p1 p2
            refine pi1 fn3 ?_
            (repeat' first | (refine Owe.same ?_; first | refine Owe.o ?_ | refine Owe.mk ?_ ?_) | (refine Fork.same ?_; (first | refine fkY ?_ | refine fkF ?_ | ((first | refine fkD ?_ ?_ | refine fkN ?_ ?_ | refine fkM ?_ ?_) <;> intro h))) | ((first | refine OpsL.same ?_ | refine OpsDL.same ?_); first | refine oK c5 rfl rfl rfl ?_ | refine oK c6 rfl rfl rfl ?_ | refine oK c7 rfl rfl rfl ?_ | refine oK c9 rfl rfl rfl ?_ | refine oK c8 rfl rfl rfl ?_ | refine oK c11 rfl rfl rfl ?_ | refine oK c10 rfl rfl rfl ?_ | refine oK c12 rfl rfl rfl ?_ | refine oK c13 rfl rfl rfl ?_ | refine oK c14 rfl rfl rfl ?_ | refine oK c15 rfl rfl rfl ?_ | refine oK c16 rfl rfl rfl ?_ | refine oK c17 rfl rfl rfl ?_ | refine oK c18 rfl rfl rfl ?_ | refine oK c19 rfl rfl rfl ?_ | refine oK c20 rfl rfl rfl ?_ | refine oK c21 rfl rfl rfl ?_ | refine oK c12b rfl rfl rfl ?_ | refine oK c13b rfl rfl rfl ?_ | refine oK c18l rfl rfl rfl ?_ | refine oK c19x rfl rfl rfl ?_) | refine MvQ.stay ?_)
            (refine rqK rfl ?_; (repeat' first | exact rfl | (refine qS ?_; constructor)))
      · rw [decide_eq_true g1] at c6
        rw [decide_eq_true g2] at c7
        refine pi1 fn3 ?_
        (repeat' first | (refine Owe.same ?_; first | refine Owe.o ?_ | refine Owe.mk ?_ ?_) | (refine Fork.same ?_; (first | refine fkY ?_ | refine fkF ?_ | ((first | refine fkD ?_ ?_ | refine fkN ?_ ?_ | refine fkM ?_ ?_) <;> intro h))) | ((first | refine OpsL.same ?_ | refine OpsDL.same ?_); first | refine oK c5 rfl rfl rfl ?_ | refine oK c6 rfl rfl rfl ?_ | refine oK c7 rfl rfl rfl ?_) | refine MvQ.stay ?_)
        (refine rqK rfl ?_; (repeat' first | exact rfl | (refine qS ?_; constructor)))
    · rw [decide_eq_true g1] at c6
      rw [decide_eq_false g2] at c7
      refine pi1 fn3 ?_
      (repeat' first | (refine Owe.same ?_; first | refine Owe.o ?_ | refine Owe.mk ?_ ?_) | (refine Fork.same ?_; (first | refine fkY ?_ | refine fkF ?_ | ((first | refine fkD ?_ ?_ | refine fkN ?_ ?_ | refine fkM ?_ ?_) <;> intro h))) | ((first | refine OpsL.same ?_ | refine OpsDL.same ?_); first | refine oK c5 rfl rfl rfl ?_ | refine oK c6 rfl rfl rfl ?_ | refine oK c7 rfl rfl rfl ?_) | refine MvQ.stay ?_)
      (refine rqK rfl ?_; (repeat' first | exact rfl | (refine qS ?_; constructor)))
  · rw [decide_eq_false g1] at c6
    refine pi1 fn3 ?_
    (repeat' first | (refine Owe.same ?_; first | refine Owe.o ?_ | refine Owe.mk ?_ ?_) | (refine Fork.same ?_; (first | refine fkY ?_ | refine fkF ?_ | ((first | refine fkD ?_ ?_ | refine fkN ?_ ?_ | refine fkM ?_ ?_) <;> intro h))) | ((first | refine OpsL.same ?_ | refine OpsDL.same ?_); first | refine oK c5 rfl rfl rfl ?_ | refine oK c6 rfl rfl rfl ?_) | refine MvQ.stay ?_)
    (refine rqK rfl ?_; (repeat' first | exact rfl | (refine qS ?_; constructor)))
end Go.Pw
