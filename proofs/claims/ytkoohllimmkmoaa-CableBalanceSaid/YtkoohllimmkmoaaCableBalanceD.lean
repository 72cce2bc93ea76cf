/- Proved here at the end: the row named in the last theorem, on no condition. -/
import Derived.Test.YtkoohllimmkmoaaCableBalanceC
import Derived.Test.YtkoohllimmkmoaaProg
import Derived.Test.YtkoohllimmkmoaaRows
set_option linter.unusedSimpArgs false
set_option linter.unusedVariables false
namespace Go.Pw
set_option maxRecDepth 2000
open Go Go.Proofs A1 A2 A3 A4
/-- The first pair in which two lists differ, with ErrProof. -/
def balE (t T : List Rg) : Rg := match (List.range t.length).find? (fun i => decide (t.getD i (0, 0) ≠ T.getD i (0, 0))) with
  | some i => (i, 19)
  | none => (0, 0)
theorem balE_at {t T : List Rg} {k : Nat} (hk : k < t.length) (h : ∀ j, j < k → t.getD j (0, 0) = T.getD j (0, 0)) (hne : t.getD k (0, 0) ≠ T.getD k (0, 0)) : balE t T = ((k : Int), 19) := by
  have : (List.range t.length).find? (fun i => decide (t.getD i (0, 0) ≠ T.getD i (0, 0))) = some k := by
    rw [List.find?_range_eq_some]
    exact ⟨decide_eq_true hne, List.mem_range.2 hk, fun j hj => by simp only [ne_eq, decide_not, Bool.not_not, decide_eq_true_eq]; exact h j hj⟩
  unfold balE; rw [this]
theorem balE_ok {t T : List Rg} (h : ∀ j, j < t.length → t.getD j (0, 0) = T.getD j (0, 0)) : balE t T = (0, 0) := by
  have : (List.range t.length).find? (fun i => decide (t.getD i (0, 0) ≠ T.getD i (0, 0))) = none := by
    rw [List.find?_range_eq_none]
    exact fun j hj => by simp only [ne_eq, decide_not, Bool.not_not, decide_eq_true_eq]; exact h j hj
  unfold balE; rw [this]
abbrev w64 (n : Int) : Prop := -9223372036854775808 ≤ n ∧ n ≤ 9223372036854775807
theorem wrap_eq {a b n : Int} (ha : w64 a) (hb : -20000 ≤ b ∧ b ≤ 20000) (hn : -1000 ≤ n ∧ n ≤ 1000) : IntKind.wrap .i64 (a - b) = n ↔ a = b + n := by
  unfold IntKind.wrap
  simp only [IntKind.bits, IntKind.signed, w64, Bool.true_and, decide_eq_true_eq] at *
  split <;> rename_i h <;> simp at h ⊢ <;> omega
abbrev bal32 (o : Ln × Int) (n : Nat) (t : List Rg) : Rg := if o.2 = 0 then (if t.length = n then balE t (accL (tnF o.1) n) else (0, 10)) else (0, o.2)
theorem C32 {x z : Int} {l : List Lk} {c : List Int} {t : List Rg} : ((l.length ≤ 1000000 ∧ c.length ≤ 1000000 ∧ t.length ≤ 1000000) ∧ ∀ i, i < t.length → w64 (t.getD i (0, 0)).1 ∧ w64 (t.getD i (0, 0)).2) → PFD Try.prog 32 [.agg [int x, int z, trs l], .c (ints c), .c (prs t)]
    (.tup [vi .i64 (bal32 (opn x z l c) l.length t).1, vi .i64 (bal32 (opn x z l c) l.length t).2]) := fun ⟨hl, hw⟩ => by
  have c1 := C95 (x := x) (z := z) (l := l) (c := c) (by omega)
  by_cases h0 : (opn x z l c).2 = 0
  · obtain ⟨hLe, hL⟩ := opn_ok h0
    rw [hLe] at hL
    have hn : 0 < l.length ∧ l.length ≤ 10 := hL.k.n
    have hbd : ∀ k, k ≤ l.length → _ := fun k hk => hL.bd k hk
    have hdl : ∀ k, k < l.length → _ := fun k hk => hL.dlo (k := k) hk
    have hlk : ∀ k, k < l.length → _ := fun k hk => hL.lk (k := k) hk
    have hcl : c.length = l.length := by have := hL.b; simpa using this
    have hg : ∀ k, k < l.length → (accL (tnF (opL x z l c)) l.length).getD k (0, 0) = tnF (opL x z l c) k := fun k hk => accL_get _ hk
    have hT := accL_len (tnF (opL x z l c)) l.length
    rw [bal32, if_pos h0, hLe]
    by_cases h1 : t.length = l.length
    · rw [if_pos h1]
      have e0 : fstE [(opn x z l c).2, unb (decide ((t.length : Int) = l.length)) 10] = 0 := by rw [h0, decide_eq_true (by omega)]; rfl
      rw [hLe] at c1
      refine pi2 fn32 ?_
      (repeat' first | (refine Owe.same ?_; first | refine Owe.o ?_ | refine Owe.mk ?_ ?_) | (refine Fork.same ?_; (first | refine fkD ?_ ?_ | refine fkN ?_ ?_ | refine fkM ?_ ?_) <;> intro h) | ((first | refine OpsL.same ?_ | refine OpsDL.same ?_); first | refine oK c1 rfl rfl rfl ?_ | refine oK C91 rfl rfl rfl ?_) | refine MvQ.stay ?_)
      (repeat' first | (refine Owe.same ?_; first | refine Owe.o ?_ | refine Owe.mk ?_ ?_) | (refine Fork.same ?_; (first | refine fkD ?_ ?_ | refine fkN ?_ ?_ | refine fkM ?_ ?_) <;> intro h) | ((first | refine OpsL.same ?_ | refine OpsDL.same ?_); first | refine pK C90 rfl rfl ?_) | refine MvQ.stay ?_)
      · exact absurd e0 h
      refine Ops.cs rfl rfl (CallS.of fn97 rfl ?_)
      (repeat' first | (refine Owe.same ?_; first | refine Owe.o ?_ | refine Owe.mk ?_ ?_) | (refine Fork.same ?_; (first | refine fkD ?_ ?_ | refine fkN ?_ ?_ | refine fkM ?_ ?_) <;> intro h) | refine MvQ.stay ?_)
      refine Sat.lp (fun k : Nat => ⟨[(11, vi .i64 k), (10, vi .i64 t.length), (9, .c (prs t)), (1, .c (.fn 98 [0, 3, 1]))], [(3, .box [int ((opL x z l c).pl k), int ((opL x z l c).pz k)]), (1, .box [ints c]), (0, .box [int x, int z, trs l])], 4⟩)
        (fun k => k ≤ t.length ∧ ∀ j, j < k → t.getD j (0, 0) = (accL (tnF (opL x z l c)) l.length).getD j (0, 0)) (fun k => t.length - k) 0 [] ⟨Nat.zero_le _, fun j h => absurd h (Nat.not_lt_zero _)⟩ ?_ ?_
      · (refine qis ?_ ?_ <;> (repeat' first | exact rfl | (refine qS ?_; constructor)))
      · intro k hk
        refine Fork.dec (fun hlt => ?_) (fun hlt => ?_)
        · have hlt : k < t.length := by omega
          have b1 := hbd k (by omega)
          have b2 := hdl k (by omega)
          have b3 := hlk k (by omega)
          have b4 := hw k hlt
          have e1 : (opL x z l c).lo k = c.getD k 0 := opL_lo (by omega)
          rw [e1] at b2
          have g1 := hg k (by omega)
          have p1 : (opL x z l c).pl (k + 1) = (opL x z l c).pl k + (opL x z l c).d k * c.getD k 0 := by rw [← e1]; rfl
          have p2 : (opL x z l c).pz (k + 1) = (opL x z l c).pz k + (opL x z l c).w k := rfl
          have hd : (opL x z l c).d k = (l.getD k (0, 0, 0)).2.2 := rfl
          have hwk : (opL x z l c).w k = (l.getD k (0, 0, 0)).2.1 := rfl
          simp only [tnF, p1, p2] at g1
          rw [hd] at b2 b3
          rw [hwk] at b3
          rw [hd, hwk] at g1
          have w1 := wrap_eq b4.1 b1.1 b2
          have w2 := wrap_eq b4.2 b1.2.2 b3.2.1
          have hsx : (opL x z l c).pl (k + 1) = (opL x z l c).pl k + (l.getD k (0, 0, 0)).2.2 * c.getD k 0 := by rw [p1, hd]
          have hsz : (opL x z l c).pz (k + 1) = (opL x z l c).pz k + (l.getD k (0, 0, 0)).2.1 := by rw [p2, hwk]
          generalize accL (tnF (opL x z l c)) l.length = T at *
          (repeat' first | (refine Owe.same ?_; first | refine Owe.o ?_ | refine Owe.mk ?_ ?_) | (refine Fork.same ?_; (first | refine fkD ?_ ?_ | refine fkN ?_ ?_ | refine fkM ?_ ?_) <;> intro h) | refine MvQ.stay ?_)
          refine Ops.cs rfl rfl (CallS.of fn98w rfl ?_)
          have key : (decide (IntKind.wrap .i64 ((t.getD k (0, 0)).1 - (opL x z l c).pl k) = (l.getD k (0, 0, 0)).2.2 * c.getD k 0) && decide (IntKind.wrap .i64 ((t.getD k (0, 0)).2 - (opL x z l c).pz k) = (l.getD k (0, 0, 0)).2.1)) = decide (t.getD k (0, 0) = T.getD k (0, 0)) := by
            rw [g1, Bool.eq_iff_iff, Bool.and_eq_true, decide_eq_true_eq, decide_eq_true_eq, decide_eq_true_eq, w1, w2]
            exact ⟨fun h => Prod.ext h.1 h.2, fun h => by rw [h]; exact ⟨rfl, rfl⟩⟩
          (repeat' first | (refine Owe.same ?_; first | refine Owe.o ?_ | refine Owe.mk ?_ ?_) | (refine Fork.same ?_; (first | refine fkD ?_ ?_ | refine fkN ?_ ?_ | refine fkM ?_ ?_) <;> intro h) | ((first | refine OpsL.same ?_ | refine OpsDL.same ?_); first | refine oK C91 rfl rfl rfl ?_) | refine MvQ.stay ?_)
          · have h : ¬ unb (decide (IntKind.wrap .i64 ((t.getD k (0, 0)).1 - (opL x z l c).pl k) = (l.getD k (0, 0, 0)).2.2 * c.getD k 0) && decide (IntKind.wrap .i64 ((t.getD k (0, 0)).2 - (opL x z l c).pz k) = (l.getD k (0, 0, 0)).2.1)) 19 = 0 := h
            rw [key, unb_ok (by decide), decide_eq_true_eq] at h
            rw [decide_eq_false h] at key
            have e := balE_at hlt hk.2 h
            rw [e]
            (refine rqK rfl ?_; (repeat' first | exact rfl | (refine qS ?_; constructor)))
            exact congrArg (fun b => unb b 19) key
          · have h : unb (decide (IntKind.wrap .i64 ((t.getD k (0, 0)).1 - (opL x z l c).pl k) = (l.getD k (0, 0, 0)).2.2 * c.getD k 0) && decide (IntKind.wrap .i64 ((t.getD k (0, 0)).2 - (opL x z l c).pz k) = (l.getD k (0, 0, 0)).2.1)) 19 = 0 := h
            rw [key, unb_ok (by decide), decide_eq_true_eq] at h
            have h9 := h
            rw [g1] at h9
            refine again (k + 1) [] ⟨hlt, fun j hj => ?_⟩ (by omega) ?_
            · rcases Nat.lt_succ_iff_lt_or_eq.1 hj with h3 | rfl
              · exact hk.2 j h3
              · exact h
            · (refine qis ?_ ?_ <;> (repeat' first | exact rfl | (refine qS ?_; constructor)))
              · rw [hsx]; exact congrArg Prod.fst h9
              · rw [hsz]; exact congrArg Prod.snd h9
        · (repeat' first | (refine Owe.same ?_; first | refine Owe.o ?_ | refine Owe.mk ?_ ?_) | (refine Fork.same ?_; (first | refine fkD ?_ ?_ | refine fkN ?_ ?_ | refine fkM ?_ ?_) <;> intro h) | refine MvQ.stay ?_)
          have e := balE_ok (fun j hj => hk.2 j (by omega) : ∀ j, j < t.length → t.getD j (0, 0) = (accL (tnF (opL x z l c)) l.length).getD j (0, 0))
          rw [e]
          (refine rqK rfl ?_; (repeat' first | exact rfl | (refine qS ?_; constructor)))
    · rw [if_neg h1]
      have e0 : fstE [(opn x z l c).2, unb (decide ((t.length : Int) = l.length)) 10] = 10 := by rw [h0, decide_eq_false (by omega)]; rfl
      refine pi2 fn32 ?_
      (repeat' first | (refine Owe.same ?_; first | refine Owe.o ?_ | refine Owe.mk ?_ ?_) | (refine Fork.same ?_; (first | refine fkD ?_ ?_ | refine fkN ?_ ?_ | refine fkM ?_ ?_) <;> intro h) | ((first | refine OpsL.same ?_ | refine OpsDL.same ?_); first | refine oK c1 rfl rfl rfl ?_ | refine oK C91 rfl rfl rfl ?_) | refine MvQ.stay ?_)
      (repeat' first | (refine Owe.same ?_; first | refine Owe.o ?_ | refine Owe.mk ?_ ?_) | (refine Fork.same ?_; (first | refine fkD ?_ ?_ | refine fkN ?_ ?_ | refine fkM ?_ ?_) <;> intro h) | ((first | refine OpsL.same ?_ | refine OpsDL.same ?_); first | refine pK C90 rfl rfl ?_) | refine MvQ.stay ?_)
      · (refine rqK rfl ?_; (repeat' first | exact rfl | (refine qS ?_; constructor)))
        exact e0
      · rw [e0] at h
        exact absurd h (by decide)
  · rw [bal32, if_neg h0]
    have e0 : fstE [(opn x z l c).2, unb (decide ((t.length : Int) = l.length)) 10] = (opn x z l c).2 := by simp only [fstE, if_neg h0]
    refine pi2 fn32 ?_
    (repeat' first | (refine Owe.same ?_; first | refine Owe.o ?_ | refine Owe.mk ?_ ?_) | (refine Fork.same ?_; (first | refine fkD ?_ ?_ | refine fkN ?_ ?_ | refine fkM ?_ ?_) <;> intro h) | ((first | refine OpsL.same ?_ | refine OpsDL.same ?_); first | refine oK c1 rfl rfl rfl ?_ | refine oK C91 rfl rfl rfl ?_) | refine MvQ.stay ?_)
    (repeat' first | (refine Owe.same ?_; first | refine Owe.o ?_ | refine Owe.mk ?_ ?_) | (refine Fork.same ?_; (first | refine fkD ?_ ?_ | refine fkN ?_ ?_ | refine fkM ?_ ?_) <;> intro h) | ((first | refine OpsL.same ?_ | refine OpsDL.same ?_); first | refine pK C90 rfl rfl ?_) | refine MvQ.stay ?_)
    · (refine rqK rfl ?_; (repeat' first | exact rfl | (refine qS ?_; constructor)))
      exact e0
    · rw [e0] at h
      exact absurd h h0
end Go.Pw

set_option linter.unusedSimpArgs false
set_option linter.unusedVariables false
namespace Go.Pw
set_option maxRecDepth 2000
open Go Go.Proofs A1 A2 A3 A4
theorem C67w {n b : Int} : (w64 n ∧ 0 < b ∧ Md b) → PFD Try.prog 67 [vi .i64 n, vi .i64 b] (vi .i64 (n % b)) := fun ⟨hn, hb, hb'⟩ => by
  have h5 := tmod_bd (n := n) hb
  simp only [w64] at hn
  refine pi1 fn67 ?_
  (repeat' first | (refine Owe.same ?_; first | refine Owe.o ?_ | refine Owe.mk ?_ ?_) | (refine Fork.same ?_; (first | refine fkD ?_ ?_ | refine fkN ?_ ?_ | refine fkM ?_ ?_) <;> intro h) | refine MvQ.stay ?_)
  · (refine rqK rfl ?_; (repeat' first | exact rfl | (refine qS ?_; constructor))); rw [← mod_eq hb, if_pos h]
  · (refine rqK rfl ?_; (repeat' first | exact rfl | (refine qS ?_; constructor))); rw [← mod_eq hb, if_neg h]
section
variable {x z : Int} {l : List Lk} {b b' : List Rg}
theorem pl_mono (hd : ∀ k, k < l.length → 0 ≤ (l.getD k (0, 0, 0)).2.2) (h : ∀ k, k < l.length → (b.getD k (0, 0)).1 ≤ (b'.getD k (0, 0)).1) : ∀ k, k ≤ l.length → (Ln.mk x z l b).pl k ≤ (Ln.mk x z l b').pl k
  | 0, _ => Int.le_refl _
  | k + 1, hk => by
    have := pl_mono hd h k (by omega)
    have := Int.mul_le_mul_of_nonneg_left (h k (by omega)) (hd k (by omega))
    show (Ln.mk x z l b).pl k + (l.getD k (0, 0, 0)).2.2 * (b.getD k (0, 0)).1 ≤ (Ln.mk x z l b').pl k + (l.getD k (0, 0, 0)).2.2 * (b'.getD k (0, 0)).1
    omega
theorem ph_mono (hd : ∀ k, k < l.length → 0 ≤ (l.getD k (0, 0, 0)).2.2) (h : ∀ k, k < l.length → (b.getD k (0, 0)).2 ≤ (b'.getD k (0, 0)).2) : ∀ k, k ≤ l.length → (Ln.mk x z l b).ph k ≤ (Ln.mk x z l b').ph k
  | 0, _ => Int.le_refl _
  | k + 1, hk => by
    have := ph_mono hd h k (by omega)
    have := Int.mul_le_mul_of_nonneg_left (h k (by omega)) (hd k (by omega))
    show (Ln.mk x z l b).ph k + (l.getD k (0, 0, 0)).2.2 * (b.getD k (0, 0)).2 ≤ (Ln.mk x z l b').ph k + (l.getD k (0, 0, 0)).2.2 * (b'.getD k (0, 0)).2
    omega
end
theorem sumI_le {f g : Nat → Int} : ∀ n : Nat, (∀ k, k < n → f k ≤ g k) → sumI f n ≤ sumI g n
  | 0, _ => Int.le_refl _
  | n + 1, h => by
    have h1 := sumI_le n (fun k hk => h k (by omega))
    have h2 := h n (by omega)
    show sumI f n + f n ≤ sumI g n + g n
    omega
theorem sq_abs {a m : Int} (h1 : -m ≤ a) (h2 : a ≤ m) : a * a ≤ m * m := by
  have h3 : 0 ≤ (m - a) * (m + a) := Int.mul_nonneg (by omega) (by omega)
  have h4 : (m - a) * (m + a) = m * m - a * a := by rw [Int.sub_mul, Int.mul_add, Int.mul_add, Int.mul_comm a m]; omega
  omega
/-- A longer pull makes no shorter link. -/
theorem lenF_mono {h z x y : Int} (hh : 1 ≤ h ∧ h ≤ 1000) (hz : 0 < z ∧ z ≤ 20000) (hx : -20000 ≤ x ∧ x ≤ 20000) (hy : -20000 ≤ y ∧ y ≤ 20000) (hxy : x * x ≤ y * y) : (lenF h z x).2 ≤ (lenF h z y).2 := by
  obtain ⟨_, _, b3, b4, b5, _, _, b8⟩ := len_bd hh hz hx
  obtain ⟨_, _, _, c4, c5, _, _, c8⟩ := len_bd hh hz hy
  have hs : sqF h z x ≤ sqF h z y := Int.mul_le_mul_of_nonneg_left (by omega) (sq_nonneg h)
  unfold lenF
  simp only [lnF] at *
  generalize sqF h z x = s at *
  generalize sqF h z y = t at *
  rw [Int.tdiv_eq_ediv_of_nonneg (by omega)] at *
  rw [Int.tdiv_eq_ediv_of_nonneg (by omega)] at *
  have hd : s / (z * z) ≤ t / (z * z) := Int.ediv_le_ediv b3.1 hs
  obtain ⟨q1, q2, q3⟩ := isq_spec (n := s / (z * z)) (by omega)
  obtain ⟨r1, r2, r3⟩ := isq_spec (n := t / (z * z)) (by omega)
  have e1 : s / (z * z) * (z * z) ≤ s := Int.ediv_mul_le _ (by omega)
  have e2 : t / (z * z) * (z * z) ≤ t := Int.ediv_mul_le _ (by omega)
  generalize isq (s / (z * z)) = p at *
  generalize isq (t / (z * z)) = q at *
  have hpq : p ≤ q := by
    rcases Int.lt_or_le q p with h1 | h1
    · have := Int.mul_le_mul (show q + 1 ≤ p by omega) (show q + 1 ≤ p by omega) (by omega) q1; omega
    · exact h1
  rcases Int.lt_or_eq_of_le hpq with h1 | rfl
  · split <;> split <;> omega
  · have e3 := Int.mul_le_mul_of_nonneg_right q2 (show 0 ≤ z * z by omega)
    split
    · split <;> omega
    · rename_i h2
      rw [if_neg (by omega)]
      omega
theorem lenF_le {h z x : Int} : (lenF h z x).1 ≤ (lenF h z x).2 := by
  unfold lenF; simp only; split <;> omega
end Go.Pw

set_option linter.unusedSimpArgs false
set_option linter.unusedVariables false
namespace Go.Pw
set_option maxRecDepth 2000
open Go Go.Proofs A1 A2 A3 A4
theorem opn_of {x z : Int} {l : List Lk} {c : List Int} (h0 : LnOk x z l) (h : curE l.length c = 0) : (opn x z l c).2 = 0 ∧ (opn x z l c).1 = opL x z l c ∧ (opL x z l c).Ok := by
  have h1 : (opn x z l c).2 = 0 := by rw [opn_err, if_pos (lineE_ok.2 h0)]; exact h
  have h2 := opn_ok h1
  refine ⟨h1, h2.1, ?_⟩
  have := h2.2
  rw [h2.1] at this
  exact this
/-- Currents in a box within a box. -/
structure Within3 (l : List Lk) (b inn : List Rg) (c : List Int) : Prop where
  lc : c.length = l.length
  li : inn.length = l.length
  h : ∀ k, k < l.length → (b.getD k (0, 0)).1 ≤ (inn.getD k (0, 0)).1 ∧ (inn.getD k (0, 0)).1 ≤ c.getD k 0 ∧ c.getD k 0 ≤ (inn.getD k (0, 0)).2 ∧ (inn.getD k (0, 0)).2 ≤ (b.getD k (0, 0)).2
section
variable {x z : Int} {l : List Lk} {b inn : List Rg} {c : List Int}
theorem Within3.ord (h : Within3 l b inn c) (hL : (Ln.mk x z l b).Ok) {k : Nat} (hk : k ≤ l.length) :
    (Ln.mk x z l b).pl k ≤ (Ln.mk x z l inn).pl k ∧ (Ln.mk x z l inn).pl k ≤ (opL x z l c).pl k ∧ (opL x z l c).pl k ≤ (Ln.mk x z l inn).ph k ∧ (Ln.mk x z l inn).ph k ≤ (Ln.mk x z l b).ph k := by
  have hd : ∀ k, k < l.length → 0 ≤ (l.getD k (0, 0, 0)).2.2 := fun k hk => (hL.lk hk).2.2.1
  have e : ∀ k, k < l.length → ((c.map dup).getD k (0, 0)) = (c.getD k 0, c.getD k 0) := fun k hk => dup_get (by rw [h.lc]; exact hk)
  refine ⟨pl_mono hd (fun k hk => (h.h k hk).1) k hk, pl_mono hd (fun k hk => by rw [e k hk]; exact (h.h k hk).2.1) k hk, ?_, ph_mono hd (fun k hk => (h.h k hk).2.2.2) k hk⟩
  rw [← opL_ph h.lc k hk]
  exact ph_mono hd (fun k hk => by rw [e k hk]; exact (h.h k hk).2.2.1) k hk
theorem ceil_mono {a b c : Int} (hc : 0 < c) (h : a ≤ b) : ceilI a c ≤ ceilI b c := by
  have := Int.ediv_le_ediv hc (show -b ≤ -a by omega)
  simp only [ceilI]; omega
/-- The laybacks and the lengths. -/
theorem Within3.all (h : Within3 l b inn c) (hT : (Ln.mk x z l b).Tight) :
    (laybk ⟨x, z, l, b⟩).1 ≤ (laybk ⟨x, z, l, inn⟩).1 ∧ (laybk ⟨x, z, l, inn⟩).2 ≤ (laybk ⟨x, z, l, b⟩).2 ∧ (laybk ⟨x, z, l, inn⟩).1 ≤ (laybk (opL x z l c)).1 ∧ (laybk (opL x z l c)).2 ≤ (laybk ⟨x, z, l, inn⟩).2 ∧
    (lenL lenF (opL x z l c)).2 ≤ sumI (enF lenF ⟨x, z, l, b⟩) l.length ∧ (lenL lenF (opL x z l c)).1 ≤ (lenL lenF (opL x z l c)).2 := by
  have hL := hT.toOk
  have hh : ∀ k, k < l.length → 1 ≤ (l.getD k (0, 0, 0)).1 ∧ (l.getD k (0, 0, 0)).1 ≤ 1000 := fun k hk => (hL.lk hk).1
  have e1 : ∀ k, (Ln.mk x z l inn).pz k = (Ln.mk x z l b).pz k := fun k => (opL_pz k).trans (opL_pz k).symm
  have e2 : ∀ k, (opL x z l c).pz k = (Ln.mk x z l b).pz k := fun k => (opL_pz k).trans (opL_pz k).symm
  have hz : ∀ k, k < l.length → 0 < (Ln.mk x z l b).pz (k + 1) ∧ (Ln.mk x z l b).pz (k + 1) ≤ 20000 := fun k hk => hT.z hk
  have ho := fun k (hk : k < l.length) => h.ord hL (k := k + 1) (by omega)
  have hbd : ∀ k, k < l.length → _ := fun k hk => hL.bd (k + 1) hk
  refine ⟨sumI_le _ fun k hk => ?_, sumI_le _ fun k hk => ?_, sumI_le _ fun k hk => ?_, sumI_le _ fun k hk => ?_, sumI_le _ fun k hk => ?_, sumI_le _ fun k hk => lenF_le⟩
  · show (l.getD k (0, 0, 0)).1 * _ / _ ≤ (l.getD k (0, 0, 0)).1 * _ / _
    rw [e1]
    exact Int.ediv_le_ediv (hz k hk).1 (Int.mul_le_mul_of_nonneg_left (ho k hk).1 (by have := hh k hk; omega))
  · show ceilI ((l.getD k (0, 0, 0)).1 * _) _ ≤ ceilI ((l.getD k (0, 0, 0)).1 * _) _
    rw [e1]
    exact ceil_mono (hz k hk).1 (Int.mul_le_mul_of_nonneg_left (ho k hk).2.2.2 (by have := hh k hk; omega))
  · show (l.getD k (0, 0, 0)).1 * _ / _ ≤ (l.getD k (0, 0, 0)).1 * _ / _
    rw [e1, e2]
    exact Int.ediv_le_ediv (hz k hk).1 (Int.mul_le_mul_of_nonneg_left (ho k hk).2.1 (by have := hh k hk; omega))
  · show ceilI ((l.getD k (0, 0, 0)).1 * (opL x z l c).ph (k + 1)) _ ≤ ceilI ((l.getD k (0, 0, 0)).1 * _) _
    rw [e1, e2, opL_ph h.lc (k + 1) hk]
    exact ceil_mono (hz k hk).1 (Int.mul_le_mul_of_nonneg_left (ho k hk).2.2.1 (by have := hh k hk; omega))
  · show (lenF (l.getD k (0, 0, 0)).1 ((opL x z l c).pz (k + 1)) ((opL x z l c).pl (k + 1))).2 ≤ (lenF (l.getD k (0, 0, 0)).1 ((Ln.mk x z l b).pz (k + 1)) (max (-(Ln.mk x z l b).pl (k + 1)) ((Ln.mk x z l b).ph (k + 1)))).2
    rw [e2]
    have h1 := ho k hk
    have h2 := hbd k hk
    exact lenF_mono (hh k hk) (hz k hk) (by omega) (by omega) (sq_abs (by omega) (by omega))
end
end Go.Pw

set_option linter.unusedVariables false
namespace Go.Pw
open Go Go.RowKit
theorem liveId_setE {Γ : Cx} {σ : Store} {id : Nat} {x y : Ent} (hg : get σ id = some x) (h : EEq x y) (j : Nat) : LiveId Γ (set σ id y) j ↔ LiveId Γ σ j := by
  rw [liveId_iff, liveId_iff]
  by_cases hj : j = id
  · subst hj
    rw [get_set_same hg]
    constructor
    · rintro ⟨e, he, hl⟩; cases he; exact ⟨x, hg, h.live.1 hl⟩
    · rintro ⟨e, he, hl⟩; rw [hg] at he; cases he; exact ⟨y, rfl, h.live.2 hl⟩
  · rw [get_set_other hj]
theorem StoreOk.setE {Γ : Cx} {w : World} {σ : Store} {id : Nat} {x y : Ent} (hs : StoreOk Γ w σ) (hg : get σ id = some x) (h : EEq x y) : StoreOk Γ w (set σ id y) where
  im := hs.im
  ok := fun j e he => by
    by_cases hj : j = id
    · subst hj
      rw [get_set_same hg] at he; cases he
      obtain ⟨b, hb, hok⟩ := hs.ok j x hg
      exact ⟨b, hb, h.ent hok⟩
    · rw [get_set_other hj] at he; exact hs.ok j e he
  inj := fun i j k hi hj => hs.inj i j k ((liveId_setE hg h i).1 hi) ((liveId_setE hg h j).1 hj)
theorem Mv.ent {base : Nat} {env : List (Nat × V)} {σ : Store} {nx id : Nat} {x y : Ent} (hg : get σ id = some x) (h : EEq x y) : Mv base ⟨env, σ, nx⟩ ⟨env, set σ id y, nx⟩ := fun N B0 Γ w a hc => by
  have hl : ∀ k, Live Γ (set σ id y) k ↔ Live Γ σ k := fun k => ⟨fun ⟨i, hi, hk⟩ => ⟨i, (liveId_setE hg h i).1 hi, hk⟩, fun ⟨i, hi, hk⟩ => ⟨i, (liveId_setE hg h i).2 hi, hk⟩⟩
  refine ⟨Γ, ⟨hc.size, hc.env, hc.ok.setE hg h, hc.free, hc.le, ?_⟩, ⟨rfl, rfl, rfl, Nat.le_refl _, fun _ h => h, fun _ h => .inl h, fun _ _ => rfl, fun _ _ => rfl, fun _ _ _ => rfl, fun k hk => .inl ((hl k).1 hk)⟩⟩
  obtain ⟨Ds, d1, d2, d3⟩ := hc.dfs
  refine ⟨Ds, d1, d2, fun D hD => ?_⟩
  obtain ⟨d4, d5, d6, d7⟩ := d3 D hD
  exact ⟨d4, d5, fun hlv => d6 ((hl D).1 hlv), d7⟩
/-- An element of a row of one's own, written. -/
theorem EEq.setRw {α : Type} {e : TypeId} {s : Nat} {row : α → List D} {d : α} {l l' : List α} {i j : Nat} {ds : List D} (x : α) (h : putD (row (l.getD i d)) j ds = row x) (hl : l' = l.set i x) : EEq (.row e s l.length (setRw (fun k => row (l.getD k d)) i j ds) false) (rowv e s row d l') := by
  subst hl
  refine EEq.rowl (by simp) fun k hk => ?_
  unfold Pw.setRw
  rw [List.getD_eq_getElem?_getD (l := l.set i x), List.getElem?_set]
  split
  · rename_i hb
    have hb := Nat.eq_of_beq_eq_true hb
    subst hb
    rw [h, if_pos rfl, if_pos hk]; rfl
  · rename_i hb
    have hb : ¬ i = k := fun h => by subst h; rw [Nat.beq_refl] at hb; cases hb
    rw [if_neg hb]; show row (l.getD k d) = _; rw [List.getD_eq_getElem?_getD]
theorem EEq.set2a {e : TypeId} {l l' : List (Int × Int)} {i : Nat} {a : Int} (hl : l' = l.set i (a, (l.getD i (0, 0)).2)) : EEq (.row e 2 l.length (Pw.setRw (fun k => r2 (l.getD k (0, 0))) i 0 [dI a]) false) (rowv e 2 r2 (0, 0) l') := EEq.setRw _ rfl hl
theorem EEq.set2b {e : TypeId} {l l' : List (Int × Int)} {i : Nat} {a : Int} (hl : l' = l.set i ((l.getD i (0, 0)).1, a)) : EEq (.row e 2 l.length (Pw.setRw (fun k => r2 (l.getD k (0, 0))) i 1 [dI a]) false) (rowv e 2 r2 (0, 0) l') := EEq.setRw _ rfl hl
theorem nnd {p q : Prop} [Decidable p] [Decidable q] (h : (!(decide p && decide q)) = true) (hp : p) (hq : q) : False := by
  rw [decide_eq_true hp, decide_eq_true hq] at h; cases h
theorem ndf {p q : Prop} [Decidable p] [Decidable q] (h : (decide p && decide q) = false) (hp : p) (hq : q) : False := by
  rw [decide_eq_true hp, decide_eq_true hq] at h; cases h
section
variable {P : Program} {N base : Nat} {env : List (Nat × V)} {σ : Store} {nx : Nat} {x y : Ent}
theorem OpsL.ent {ops : List LIns} {K : St → Prop} (id : Nat) (hg : get σ id = some x) (h : EEq x y) (k : frS (set σ id y) fun σ' => OpsL P N base ops ⟨env, σ', nx⟩ K) : OpsL P N base ops ⟨env, σ, nx⟩ K := by
  rw [frS_eq] at k
  exact ⟨Ops.from (Mv.ent hg h) k.h⟩
theorem SatL.ent {c : LCode} {Q : Exit → St → Prop} (id : Nat) (hg : get σ id = some x) (h : EEq x y) (k : frS (set σ id y) fun σ' => SatL P N base c ⟨env, σ', nx⟩ Q) : SatL P N base c ⟨env, σ, nx⟩ Q := by
  rw [frS_eq] at k
  exact ⟨Sat.from (Mv.ent hg h) k.h⟩
theorem MvQ.ent {e : Exit} {Q : Exit → St → Prop} (id : Nat) (hg : get σ id = some x) (h : EEq x y) (k : frS (set σ id y) fun σ' => MvQ base Q e ⟨env, σ', nx⟩) : MvQ base Q e ⟨env, σ, nx⟩ := by
  rw [frS_eq] at k
  exact MvQ.from (Mv.ent hg h) k
end
end Go.Pw

set_option linter.unusedSimpArgs false
set_option linter.unusedVariables false
namespace Go.Pw
set_option maxRecDepth 2000
open Go Go.Proofs A1 A2 A3 A4
theorem curE_ok {n : Nat} {c : List Int} : curE n c = 0 ↔ c.length = n ∧ ∀ i, i < c.length → curOk (c.getD i 0) := by
  unfold curE
  constructor
  · intro h
    split at h
    · rename_i hl
      refine ⟨hl, fun i hi => ?_⟩
      have h := eachE_ok.1 h
      have := h _ (getD_mem 0 hi)
      rw [curErr, unl, unb_ok (by decide), decide_eq_true_eq] at this
      exact this
    · cases h
  · rintro ⟨hl, h⟩
    rw [if_pos hl, eachE_ok]
    intro x hx
    obtain ⟨i, hi, rfl⟩ := List.getElem_of_mem hx
    have := h i hi
    rw [curErr, unl, unb_ok (by decide), decide_eq_true_eq]
    rwa [List.getD_eq_getElem?_getD, List.getElem?_eq_getElem hi] at this
abbrev ngL (c : List Int) : List Int := c.map fun n => -n
theorem ngL_get {c : List Int} {i : Nat} : (ngL c).getD i 0 = -c.getD i 0 := by
  simp only [List.getD_eq_getElem?_getD, List.getElem?_map]
  cases c[i]? <;> simp
theorem ng_line {x z : Int} {l : List Lk} (h : LnOk x z l) : LnOk (-x) z l := ⟨by have := h.x; omega, h.z, h.n, h.l⟩
theorem ng_cur {n : Nat} {c : List Int} (h : curE n c = 0) : curE n (ngL c) = 0 := by
  rw [curE_ok] at h ⊢
  refine ⟨by simpa using h.1, fun i hi => ?_⟩
  have := h.2 i (by simpa using hi)
  rw [ngL_get]
  exact ⟨by omega, by omega⟩
theorem ng_pl {x z : Int} {l : List Lk} {c : List Int} (hc : c.length = l.length) : ∀ k, k ≤ l.length → (opL (-x) z l (ngL c)).pl k = -(opL x z l c).pl k
  | 0, _ => rfl
  | k + 1, hk => by
    have ih := ng_pl (x := x) (z := z) hc k (by omega)
    simp only [Ln.pl]
    rw [ih, opL_lo (by simp; omega), opL_lo (by omega), ngL_get]
    show -(opL x z l c).pl k + (opL x z l c).d k * -c.getD k 0 = _
    rw [Int.mul_neg]; omega
theorem ng_pz {x z : Int} {l : List Lk} {c : List Int} : ∀ k, (opL (-x) z l (ngL c)).pz k = (opL x z l c).pz k
  | 0 => rfl
  | k + 1 => by
    have ih := ng_pz (x := x) (z := z) (l := l) (c := c) k
    simp only [Ln.pz]; rw [ih]; rfl
theorem sumI_ext {f g : Nat → Int} : ∀ (n : Nat), (∀ k, k < n → f k = g k) → sumI f n = sumI g n
  | 0, _ => rfl
  | n + 1, h => by simp only [sumI]; rw [sumI_ext n (fun k hk => h k (by omega)), h n (by omega)]
theorem sumI_neg {f g : Nat → Int} : ∀ (n : Nat), (∀ k, k < n → f k = -g k) → sumI f n = -sumI g n
  | 0, _ => rfl
  | n + 1, h => by simp only [sumI]; rw [sumI_neg n (fun k hk => h k (by omega)), h n (by omega)]; omega
theorem ng_lay {x z : Int} {l : List Lk} {c : List Int} (hc : c.length = l.length) : laybk (opL x z l c) = (-(laybk (opL (-x) z l (ngL c))).2, -(laybk (opL (-x) z l (ngL c))).1) := by
  have hc' : (ngL c).length = l.length := by simpa using hc
  refine Prod.ext ?_ ?_
  · show sumI _ _ = -sumI _ _
    refine sumI_neg _ fun k hk => ?_
    simp only [lbF, ubF, ceilI]
    rw [opL_ph hc' (k + 1) (by exact hk), ng_pl hc (k + 1) (by exact hk), ng_pz]
    show (opL x z l c).h k * _ / _ = - -(-((opL x z l c).h k * _) / _)
    rw [Int.mul_neg, Int.neg_neg, Int.neg_neg]
  · show sumI _ _ = -sumI _ _
    refine sumI_neg _ fun k hk => ?_
    simp only [lbF, ubF, ceilI]
    rw [opL_ph hc (k + 1) (by exact hk), ng_pl hc (k + 1) (by exact hk), ng_pz]
    show -(-((opL x z l c).h k * _) / _) = -((opL x z l c).h k * _ / _)
    rw [Int.mul_neg]
theorem ng_len {x z : Int} {l : List Lk} {c : List Int} (hc : c.length = l.length) : lenL lenF (opL (-x) z l (ngL c)) = lenL lenF (opL x z l c) := by
  have key : ∀ k, k < l.length → leF lenF (opL (-x) z l (ngL c)) k = leF lenF (opL x z l c) k := fun k hk => by
    simp only [leF]
    rw [ng_pl hc (k + 1) hk, ng_pz]
    show lenF ((opL x z l c).h k) _ _ = _
    simp only [lenF, lnF, sqF, Int.neg_mul_neg]
  exact Prod.ext (sumI_ext _ fun k hk => by rw [key k hk]) (sumI_ext _ fun k hk => by rw [key k hk])
abbrev ngR (l : List Rg) : List Rg := l.map fun p => (-p.1, p.2)
theorem ngR_get {l : List Rg} {i : Nat} : (ngR l).getD i (0, 0) = (-(l.getD i (0, 0)).1, (l.getD i (0, 0)).2) := by
  simp only [List.getD_eq_getElem?_getD, List.getElem?_map]
  cases l[i]? <;> rfl
theorem ng_tn {x z : Int} {l : List Lk} {c : List Int} (hc : c.length = l.length) : accL (tnF (opL (-x) z l (ngL c))) l.length = ngR (accL (tnF (opL x z l c)) l.length) := by
  simp only [accL, ngR, List.map_map]
  refine List.map_congr_left fun k hk => ?_
  have hk : k < l.length := List.mem_range.1 hk
  simp only [tnF, Function.comp]
  rw [ng_pl hc (k + 1) hk, ng_pz]
theorem ng_bd {T : List Rg} : bdL (ngR T) = bdL T := by
  unfold bdL
  rw [show (ngR T).length = T.length by simp]
  simp only [accL]
  refine List.map_congr_left fun k hk => ?_
  simp only [bdF, bendF, trnI, sqI, ngR_get, Int.neg_mul_neg]
  congr 1
  have e : ∀ a b c d : Int, (-a * b - -c * d) = -(a * b - c * d) := fun a b c d => by rw [Int.neg_mul, Int.neg_mul]; omega
  rw [e, Int.neg_mul_neg]
theorem ng_tg {x z : Int} {l : List Lk} {c : List Int} : slkE (opL (-x) z l (ngL c)) = slkE (opL x z l c) := by
  unfold slkE
  simp only [ng_pz]
theorem tk_get {α : Type} {l : List α} {d : α} {n k : Nat} (h : k < n) : (l.take n).getD k d = l.getD k d := by
  simp only [List.getD_eq_getElem?_getD, List.getElem?_take, h, if_true]
theorem tk_line {x z : Int} {l : List Lk} {n : Nat} (h : LnOk x z l) (hn : 0 < n ∧ n ≤ l.length) : LnOk x z (l.take n) :=
  ⟨h.x, h.z, by have := h.n; rw [List.length_take]; omega, fun k hk => h.l k (List.mem_of_mem_take hk)⟩
theorem tk_cur {m n : Nat} {c : List Int} (h : curE m c = 0) (hn : n ≤ m) : curE n (c.take n) = 0 := by
  rw [curE_ok] at h ⊢
  refine ⟨by rw [List.length_take]; omega, fun i hi => ?_⟩
  rw [List.length_take] at hi
  rw [tk_get (by omega)]
  exact h.2 i (by omega)
theorem tk_pl {x z : Int} {l : List Lk} {c : List Int} {n : Nat} (hc : c.length = l.length) (hn : n ≤ l.length) : ∀ k, k ≤ n → (opL x z (l.take n) (c.take n)).pl k = (opL x z l c).pl k ∧ (opL x z (l.take n) (c.take n)).pz k = (opL x z l c).pz k
  | 0, _ => ⟨rfl, rfl⟩
  | k + 1, hk => by
    obtain ⟨h1, h2⟩ := tk_pl (x := x) (z := z) hc hn k (by omega)
    simp only [Ln.pl, Ln.pz, h1, h2]
    rw [opL_lo (by rw [List.length_take]; omega), opL_lo (by omega), tk_get (by omega)]
    simp only [Ln.d, Ln.w]
    rw [tk_get (by omega)]
    exact ⟨rfl, rfl⟩
theorem tk_tn {x z : Int} {l : List Lk} {c : List Int} {n : Nat} (hc : c.length = l.length) (hn : n ≤ l.length) : accL (tnF (opL x z (l.take n) (c.take n))) n = (accL (tnF (opL x z l c)) l.length).take n := by
  simp only [accL, ← List.map_take, List.take_range, Nat.min_eq_left hn]
  refine List.map_congr_left fun k hk => ?_
  have hk : k < n := List.mem_range.1 hk
  obtain ⟨h1, h2⟩ := tk_pl (x := x) (z := z) hc hn (k + 1) hk
  simp only [tnF, h1, h2]
theorem st_get {l : List Rg} {i k : Nat} {a : Rg} (hi : i < l.length) : (l.set i a).getD k (0, 0) = if i = k then a else l.getD k (0, 0) := by
  simp only [List.getD_eq_getElem?_getD, List.getElem?_set]
  split
  · rename_i h; subst h; rfl
  · rfl
theorem bal_wrong {T : List Rg} {i : Nat} {a : Rg} (hi : i < T.length) (ha : a ≠ T.getD i (0, 0)) : balE (T.set i a) T = ((i : Int), 19) :=
  balE_at (by simpa using hi) (fun j hj => by rw [st_get hi, if_neg (by omega)]) (by rw [st_get hi, if_pos rfl]; exact ha)
end Go.Pw

set_option linter.unusedVariables false
set_option maxRecDepth 100000
namespace Go.Pw
open Go Go.Proofs
/-- moonpool/moonpoolref01.CopyForces (its row is its own) -/
def lc33w : LCode :=
  (.seq (.region [⟨some 2, .mv (.const (.slice none 0 0)), none⟩]) (.seq (.region [⟨some 3, .lit false 46 2 [], none⟩, ⟨some 4, .mv (.tmp 0), none⟩, ⟨some 5, .append true 46 2 16
    (.tmp 3) (.tmp 4), none⟩, ⟨some 2, .mv (.tmp 5), none⟩]) .ret))
theorem low33w : lowF Try.prog [5] Try.f33 = some (6, lc33w, [.tmp 2]) := by kernel_rfl
theorem fn33w : FnOk Try.prog 33 6 lc33w [.tmp 2] := ⟨Try.call33, [5], _, Try.func33, low33w⟩
end Go.Pw

set_option linter.unusedSimpArgs false
set_option linter.unusedVariables false
namespace Go.Pw
set_option maxRecDepth 2000
open Go Go.Proofs A1 A2 A3 A4
/-- The first items of a list, as data. -/
theorem tkC {α : Type} {s : Nat} {row : α → List D} {d : α} {l : List α} {n : Nat} (hn : n ≤ l.length) : CEq (.d (.sl s n fun i => row (l.getD i d))) (slv s row d (l.take n)) :=
  CEq.sl (by rw [List.length_take]; omega) fun i hi => by rw [tk_get hi]
theorem accN {c : List Int} : accL (fun i => -c.getD i 0) c.length = ngL c := by
  refine List.ext_getElem? fun i => ?_
  simp only [accL, ngL, List.getElem?_map, List.getElem?_range, List.getD_eq_getElem?_getD]
  by_cases h : i < c.length
  · simp [h]
  · simp [h]
set_option maxHeartbeats 8000000 in
theorem C9 {x z : Int} {l : List Lk} {c : List Int} {u v : Int} (hu : w64 u) (hv : w64 v) : PFD Try.prog 9 [.agg [int x, int z, trs l], .c (ints c), .agg [int u, int v]] (vbl true) := by
  by_cases hf : l.length ≤ 12 ∧ (c.length : Int) ≤ 14
  · have hlc : l.length ≤ 1000000 ∧ c.length ≤ 1000000 := by omega
    have c1 := C35 (x := x) (z := z) (l := l) (by omega)
    have c2 := C36 (x := x) (z := z) (l := l) (c := c) hlc
    by_cases h0 : (lineE x z l).2 = 0
    · rw [h0] at c1
      by_cases h1 : curE l.length c = 0
      · rw [h1] at c2
        have h01 := lineE_ok.1 h0
        obtain ⟨ho1, ho2, hO⟩ := opn_of h01 h1
        have hcl := (curE_ok.1 h1).1
        have hcr := (curE_ok.1 h1).2
        have hn : 0 < l.length ∧ l.length ≤ 10 := h01.n
        have hx := h01.x
        have d1 := C29 (x := x) (z := z) (l := l) (c := c) hlc
        rw [ho1, orE, if_pos rfl, ho2] at d1
        change PFD Try.prog 29 _ (.tup [.c (prs (accL (tnF (opL x z l c)) l.length)), _]) at d1
        have q1 := accL_len (tnF (opL x z l c)) l.length
        have hX : ∀ k, k < l.length → (accL (tnF (opL x z l c)) l.length).getD k (0, 0) = ((opL x z l c).pl (k + 1), (opL x z l c).pz (k + 1)) := fun k hk => accL_get _ hk
        have hb : ∀ k, k ≤ l.length → (-20000 ≤ (opL x z l c).pl k ∧ (opL x z l c).pl k ≤ 20000) ∧ -20000 ≤ (opL x z l c).pz k ∧ (opL x z l c).pz k ≤ 20000 := fun k hk => ⟨(hO.bd k hk).1, (hO.bd k hk).2.2⟩
        have hs : ∀ k, k < l.length → (opL x z l c).pl (k + 1) = (opL x z l c).pl k + (l.getD k (0, 0, 0)).2.2 * c.getD k 0 ∧ (opL x z l c).pz (k + 1) = (opL x z l c).pz k + (l.getD k (0, 0, 0)).2.1 := fun k hk => by
          refine ⟨?_, rfl⟩
          show (opL x z l c).pl k + (opL x z l c).d k * (opL x z l c).lo k = _
          rw [opL_lo (by omega)]; rfl
        have hTb : ∀ k, k < l.length → (-20000 ≤ ((accL (tnF (opL x z l c)) l.length).getD k (0, 0)).1 ∧ ((accL (tnF (opL x z l c)) l.length).getD k (0, 0)).1 ≤ 20000) ∧ -20000 ≤ ((accL (tnF (opL x z l c)) l.length).getD k (0, 0)).2 ∧ ((accL (tnF (opL x z l c)) l.length).getD k (0, 0)).2 ≤ 20000 := fun k hk => by
          rw [hX k hk]; exact hb (k + 1) hk
        have d2 := fun (t : List Rg) (ht : t.length = l.length) hw => C32 (x := x) (z := z) (l := l) (c := c) (t := t) ⟨by omega, hw⟩
        simp only [bal32, if_pos ho1, ho2] at d2
        have hng := ng_cur h1
        obtain ⟨hm1, hm2, hM⟩ := opn_of (ng_line h01) hng
        have hnl : (ngL c).length = l.length := by simpa using hcl
        have d4 := C29 (x := -x) (z := z) (l := l) (c := ngL c) (by omega)
        rw [hm1, orE, if_pos rfl, hm2] at d4
        change PFD Try.prog 29 _ (.tup [.c (prs (accL (tnF (opL (-x) z l (ngL c))) l.length)), _]) at d4
        rw [ng_tn hcl] at d4
        have d5 := C56 (x := x) (z := z) (l := l) (c := c) hlc
        have d6 := C56 (x := -x) (z := z) (l := l) (c := ngL c) (by omega)
        have d7 := C57 lenF_ok (x := x) (z := z) (l := l) (c := c) hlc
        have d8 := C57 lenF_ok (x := -x) (z := z) (l := l) (c := ngL c) (by omega)
        have d9 := C58 (x := x) (z := z) (l := l) (c := c) hlc
        have d10 := C58 (x := -x) (z := z) (l := l) (c := ngL c) (by omega)
        have et : tgE (opn (-x) z l (ngL c)) = tgE (opn x z l c) := by
          rw [tgE, tgE, if_pos hm1, if_pos ho1, hm2, ho2]; exact ng_tg
        rw [et] at d6 d8 d10
        rw [hm2] at d6 d8 d10
        rw [ho2] at d5 d7 d9
        rw [ng_len hcl] at d8
        change PFD Try.prog 58 _ (.tup [.c (prs (orE (tgE (opn x z l c)) (bdL (accL (tnF (opL x z l c)) l.length)))), _]) at d9
        change PFD Try.prog 58 _ (.tup [.c (prs (orE (tgE (opn x z l c)) (bdL (accL (tnF (opL (-x) z l (ngL c))) l.length)))), _]) at d10
        rw [ng_tn hcl, ng_bd] at d10
        have hE : ∃ A B : Rg, A = (-B.2, -B.1) ∧ ((-1000000000 ≤ B.1 ∧ B.1 ≤ 1000000000) ∧ -1000000000 ≤ B.2 ∧ B.2 ≤ 1000000000) ∧ orP (tgE (opn x z l c)) (laybk (opL x z l c)) = A ∧ orP (tgE (opn x z l c)) (laybk (opL (-x) z l (ngL c))) = B := by
          by_cases hE : tgE (opn x z l c) = 0
          · have hT : (opL (-x) z l (ngL c)).Tight := by
              have := tgE_ok (o := opn (-x) z l (ngL c)) (et.trans hE) fun h => (opn_ok h).2
              rwa [hm2] at this
            refine ⟨_, _, ng_lay hcl, ?_, by rw [orP, if_pos hE], by rw [orP, if_pos hE]⟩
            have s1 := sumI_bd (f := lbF (opL (-x) z l (ngL c))) (n := l.length) (M := 20000000) (fun k hk => hT.lb hk) l.length (Nat.le_refl _)
            have s2 := sumI_bd (f := ubF (opL (-x) z l (ngL c))) (n := l.length) (M := 20000000) (fun k hk => hT.ub hk) l.length (Nat.le_refl _)
            have s3 : (opL (-x) z l (ngL c)).l.length = l.length := rfl
            simp only [laybk, s3]
            exact ⟨⟨by omega, by omega⟩, by omega, by omega⟩
          · exact ⟨(0, 0), (0, 0), rfl, by decide, by rw [orP, if_neg hE], by rw [orP, if_neg hE]⟩
        obtain ⟨A, B, hA, hB, eA, eB⟩ := hE
        rw [eA] at d5
        rw [eB] at d6
        clear eA eB
        generalize orP (tgE (opn x z l c)) (lenL lenF (opL x z l c)) = N at *
        have hWl : (orE (tgE (opn x z l c)) (bdL (accL (tnF (opL x z l c)) l.length))).length ≤ 1000 := by
          by_cases h9 : tgE (opn x z l c) = 0
          · rw [orE, if_pos h9, bdL, accL_len, accL_len]; omega
          · rw [orE, if_neg h9]; exact Nat.zero_le _
        generalize orE (tgE (opn x z l c)) (bdL (accL (tnF (opL x z l c)) l.length)) = W at *
        generalize tgE (opn x z l c) = E at *
        have c39 := C39 (l := []) (m := []) (by decide)
        have d3 := fun (n : Nat) (h : 0 < n ∧ n ≤ l.length) => C29 (x := x) (z := z) (l := l.take n) (c := c.take n) (by rw [List.length_take, List.length_take]; omega)
        have h3 : ∀ n, 0 < n ∧ n ≤ l.length → PFD Try.prog 29 [.agg [int x, int z, .d (.sl 3 n fun i => r3 (l.getD i (0, 0, 0)))], .c (ints (c.take n))] (.tup [.c (prs ((accL (tnF (opL x z l c)) l.length).take n)), vi .i64 0]) := fun n hn => by
          have h4 := opn_of (tk_line h01 hn) (c := c.take n) (by rw [List.length_take, Nat.min_eq_left hn.2]; exact tk_cur h1 hn.2)
          have h5 := d3 n hn
          rw [h4.1, orE, if_pos rfl, h4.2.1] at h5
          change PFD Try.prog 29 _ (.tup [.c (prs (accL (tnF (opL x z (l.take n) (c.take n))) (l.take n).length)), _]) at h5
          rw [List.length_take, Nat.min_eq_left hn.2, tk_tn hcl hn.2] at h5
          exact h5.ri' (.cons (VEq.ri (VEq.aggs ⟨CEq.refl _, CEq.refl _, tkC hn.2, trivial⟩)) (.cons (RI.refl _) .nil))
        have h31 : ∀ n, n ≤ c.length → PFD Try.prog 31 [.c (.d (.sl 1 n fun i => r1 (c.getD i 0)))] (.c (ints (c.take n))) := fun n hn =>
          (C31 (l := c.take n) (by rw [List.length_take]; omega)).ri' (.cons (VEq.ri (.c _ _ (tkC hn))) .nil)
        have h39 : ∀ n, n ≤ l.length → PFD Try.prog 39 [.c (prs ((accL (tnF (opL x z l c)) l.length).take n)), .c (.d (.sl 2 n fun i => r2 ((accL (tnF (opL x z l c)) l.length).getD i (0, 0))))] (vbl true) := fun n hn => by
          have h5 := C39 (l := (accL (tnF (opL x z l c)) l.length).take n) (m := (accL (tnF (opL x z l c)) l.length).take n) (by rw [List.length_take]; omega)
          rw [decide_eq_true rfl] at h5
          exact h5.ri' (.cons (RI.refl _) (.cons (VEq.ri (.c _ _ (tkC (by omega)))) .nil))
        clear d3 c39
        have hbal : balE (accL (tnF (opL x z l c)) l.length) (accL (tnF (opL x z l c)) l.length) = (0, 0) := balE_ok fun j hj => rfl
        have hw0 : ∀ i, i < (accL (tnF (opL x z l c)) l.length).length → w64 ((accL (tnF (opL x z l c)) l.length).getD i (0, 0)).1 ∧ w64 ((accL (tnF (opL x z l c)) l.length).getD i (0, 0)).2 := fun i hi => by
          have := hTb i (by omega)
          exact ⟨⟨by omega, by omega⟩, by omega, by omega⟩
        have d20 := d2 _ q1 hw0
        rw [if_pos q1] at d20
        change PFD Try.prog 32 _ (.tup [vi .i64 (balE (accL (tnF (opL x z l c)) l.length) (accL (tnF (opL x z l c)) l.length)).1, vi .i64 (balE (accL (tnF (opL x z l c)) l.length) (accL (tnF (opL x z l c)) l.length)).2]) at d20
        rw [hbal] at d20
        have d21 : ∀ (i : Nat) (a : Rg), i < l.length → a ≠ (accL (tnF (opL x z l c)) l.length).getD i (0, 0) → w64 a.1 ∧ w64 a.2 → PFD Try.prog 32 [.agg [int x, int z, trs l], .c (ints c), .c (prs ((accL (tnF (opL x z l c)) l.length).set i a))] (.tup [vi .i64 (i : Int), vi .i64 19]) := fun i a hi ha hwa => by
          have h5 := d2 ((accL (tnF (opL x z l c)) l.length).set i a) (by rw [List.length_set]; exact q1) fun j hj => by
            rw [st_get (by omega)]
            split
            · exact hwa
            · exact hw0 j (by rw [List.length_set] at hj; exact hj)
          rw [if_pos (by rw [List.length_set]; exact q1)] at h5
          change PFD Try.prog 32 _ (.tup [vi .i64 (balE ((accL (tnF (opL x z l c)) l.length).set i a) (accL (tnF (opL x z l c)) l.length)).1, vi .i64 (balE ((accL (tnF (opL x z l c)) l.length).set i a) (accL (tnF (opL x z l c)) l.length)).2]) at h5
          rwa [bal_wrong (by omega) ha] at h5
        clear d2
        generalize accL (tnF (opL x z l c)) l.length = T at *
        rw [← accN] at d4 d6 d8 d10
        have c62 := C62 (l := W) (m := W) (by have := hWl; omega)
        rw [decide_eq_true rfl] at c62
        have cM := C67w (n := u) (b := (T.length : Int)) ⟨hu, by omega, by simp only [Md]; omega⟩
        have cM2 := C67w (n := v) (b := 2) ⟨hv, by omega, by simp only [Md]; omega⟩
        have cM7 := C67w (n := v) (b := 7) ⟨hv, by omega, by simp only [Md]; omega⟩
        have hJ : 0 ≤ u % (T.length : Int) ∧ u % (T.length : Int) < T.length := ⟨Int.emod_nonneg _ (by omega), Int.emod_lt_of_pos _ (by omega)⟩
        have hv7 : 0 ≤ v % 7 ∧ v % 7 < 7 := ⟨Int.emod_nonneg _ (by decide), Int.emod_lt_of_pos _ (by decide)⟩
        obtain ⟨J, hJe⟩ : ∃ J : Nat, u % (T.length : Int) = J := ⟨(u % (T.length : Int)).toNat, by omega⟩
        rw [hJe] at cM hJ
        have k3 := h3 ((J : Int) + 1).toNat (by omega)
        have k31 := h31 ((J : Int) + 1).toNat (by omega)
        have k39 := h39 ((J : Int) + 1).toNat (by omega)
        clear h3 h31 h39
        generalize v % 7 = R at *
        generalize v % 2 = S at *
        refine pi1 fn9 ?_
        (repeat' first | (refine Owe.same ?_; first | refine Owe.o ?_ | refine Owe.mk ?_ ?_) | (refine Fork.same ?_; (first | refine fkY ?_ | refine fkF ?_ | ((first | refine fkD ?_ ?_ | refine fkN ?_ ?_ | refine fkM ?_ ?_) <;> intro h))) | ((first | refine OpsL.same ?_ | refine OpsDL.same ?_); first | refine oK C15 rfl rfl rfl ?_ | refine oK C28 rfl rfl rfl ?_ | refine oK C30 rfl rfl rfl ?_ | refine oK C31 rfl rfl rfl ?_ | refine oK C33 rfl rfl rfl ?_ | refine oK c1 rfl rfl rfl ?_ | refine oK c2 rfl rfl rfl ?_ | refine oK d1 rfl rfl rfl ?_ | refine oK d20 rfl rfl rfl ?_) | refine MvQ.stay ?_)
        refine Sat.lp (fun k : Nat => ⟨[(12, vi .i64 k), (7, .c (prs T)), (3, .c (.bp 0 0)), (5, .c (.bp 1 0)), (11, .c (.bp 2 0)), (1, .c (ints c))],
            [(2, .box [int ((opL x z l c).pl k), int ((opL x z l c).pz k)]), (1, .box [int u, int v]), (0, .box [int x, int z, trs l])], 3⟩)
          (fun k => k ≤ l.length) (fun k => l.length - k) 0 [0, 1, 2] (Nat.zero_le _) ?_ ?_
        · (refine qis ?_ ?_ <;> (repeat' first | exact rfl | (refine qS ?_; constructor)))
        · intro k hk
          refine Fork.dec (fun hlt => ?_) (fun hlt => ?_)
          · have hlt : k < l.length := by omega
            have hXk := hX k hlt
            have hsk := hs k hlt
            have hbk := hb k (by omega)
            have hbk1 := hb (k + 1) hlt
            have hlk := hO.lk (k := k) hlt
            have e1 : (T.getD k (0, 0)).1 = (opL x z l c).pl k + (l.getD k (0, 0, 0)).2.2 * c.getD k 0 := by rw [hXk]; exact hsk.1
            have e2 : (T.getD k (0, 0)).2 = (opL x z l c).pz k + (l.getD k (0, 0, 0)).2.1 := by rw [hXk]; exact hsk.2
            rw [hsk.1, hsk.2] at hbk1
            (repeat' first | (refine Owe.same ?_; first | refine Owe.o ?_ | refine Owe.mk ?_ ?_) | (refine Fork.same ?_; (first | refine fkY ?_ | refine fkF ?_ | ((first | refine fkD ?_ ?_ | refine fkN ?_ ?_ | refine fkM ?_ ?_) <;> intro h))) | ((first | refine OpsL.same ?_ | refine OpsDL.same ?_); first | refine oK c1 rfl rfl rfl ?_) | refine MvQ.stay ?_)
            · exact (nnd h e1 e2).elim
            · refine again (k + 1) [0, 1, 2] hlt (by omega) ?_
              (refine qis ?_ ?_ <;> (repeat' first | exact rfl | (refine qS ?_; constructor)))
              · rw [hsk.1]; exact e1
              · rw [hsk.2]; exact e2
          · have : k = l.length := by omega
            subst this
            (repeat' first | (refine Owe.same ?_; first | refine Owe.o ?_ | refine Owe.mk ?_ ?_) | (refine Fork.same ?_; (first | refine fkY ?_ | refine fkF ?_ | ((first | refine fkD ?_ ?_ | refine fkN ?_ ?_ | refine fkM ?_ ?_) <;> intro h))) | ((first | refine OpsL.same ?_ | refine OpsDL.same ?_); first | refine oK cM rfl rfl rfl ?_) | refine MvQ.stay ?_)
            refine Ops.cs rfl rfl (CallS.of fn33w rfl ?_)
            have hTJ := hTb J (by omega)
            (repeat' first | (refine Owe.same ?_; first | refine Owe.o ?_ | refine Owe.mk ?_ ?_) | (refine Fork.same ?_; (first | refine fkY ?_ | refine fkF ?_ | ((first | refine fkD ?_ ?_ | refine fkN ?_ ?_ | refine fkM ?_ ?_) <;> intro h))) | ((first | refine OpsL.same ?_ | refine OpsDL.same ?_); first | refine oK cM2 rfl rfl rfl ?_ | refine oK cM7 rfl rfl rfl ?_) | refine MvQ.stay ?_)
            focus (
              (repeat' first | (refine Owe.same ?_; first | refine Owe.o ?_ | refine Owe.mk ?_ ?_) | (refine Fork.same ?_; (first | refine fkY ?_ | refine fkF ?_ | ((first | refine fkD ?_ ?_ | refine fkN ?_ ?_ | refine fkM ?_ ?_) <;> intro h))) | ((first | refine OpsL.same ?_ | refine OpsDL.same ?_); first | refine oK C30 rfl rfl rfl ?_ | refine oK C31 rfl rfl rfl ?_) | refine MvQ.stay ?_)
              have k21 := d21 J ((T.getD J (0, 0)).1 + 1 + R, (T.getD J (0, 0)).2) (by omega) (fun h9 => by have := congrArg Prod.fst h9; simp only at this; omega) ⟨⟨by simp only; omega, by simp only; omega⟩, by simp only; omega, by simp only; omega⟩
              simp only [prs, slv, List.length_set] at k21
              refine OpsL.ent 3 rfl (EEq.set2a rfl) ?_
              refine OpsL.frz 14 _ rfl rfl (by rw [List.length_set]; exact Nat.le_refl _) ?_
              refine OpsL.frz 177 _ rfl rfl (by rw [List.length_set]; exact Nat.le_refl _) ?_
              (repeat' first | (refine Owe.same ?_; first | refine Owe.o ?_ | refine Owe.mk ?_ ?_) | (refine Fork.same ?_; (first | refine fkY ?_ | refine fkF ?_ | ((first | refine fkD ?_ ?_ | refine fkN ?_ ?_ | refine fkM ?_ ?_) <;> intro h))) | ((first | refine OpsL.same ?_ | refine OpsDL.same ?_); first | refine oK C30 rfl rfl rfl ?_ | refine oK C31 rfl rfl rfl ?_ | refine oK k21 rfl rfl rfl ?_ | refine oK k3 rfl rfl rfl ?_ | refine oK k31 rfl rfl rfl ?_ | refine oK k39 rfl rfl rfl ?_) | refine MvQ.stay ?_))
            rotate_left
            focus (
              (repeat' first | (refine Owe.same ?_; first | refine Owe.o ?_ | refine Owe.mk ?_ ?_) | (refine Fork.same ?_; (first | refine fkY ?_ | refine fkF ?_ | ((first | refine fkD ?_ ?_ | refine fkN ?_ ?_ | refine fkM ?_ ?_) <;> intro h))) | ((first | refine OpsL.same ?_ | refine OpsDL.same ?_); first | refine oK C30 rfl rfl rfl ?_ | refine oK C31 rfl rfl rfl ?_) | refine MvQ.stay ?_)
              have k21 := d21 J ((T.getD J (0, 0)).1, (T.getD J (0, 0)).2 - 1 - R) (by omega) (fun h9 => by have := congrArg Prod.snd h9; simp only at this; omega) ⟨⟨by simp only; omega, by simp only; omega⟩, by simp only; omega, by simp only; omega⟩
              simp only [prs, slv, List.length_set] at k21
              refine OpsL.ent 3 rfl (EEq.set2b rfl) ?_
              refine OpsL.frz 14 _ rfl rfl (by rw [List.length_set]; exact Nat.le_refl _) ?_
              refine OpsL.frz 177 _ rfl rfl (by rw [List.length_set]; exact Nat.le_refl _) ?_
              (repeat' first | (refine Owe.same ?_; first | refine Owe.o ?_ | refine Owe.mk ?_ ?_) | (refine Fork.same ?_; (first | refine fkY ?_ | refine fkF ?_ | ((first | refine fkD ?_ ?_ | refine fkN ?_ ?_ | refine fkM ?_ ?_) <;> intro h))) | ((first | refine OpsL.same ?_ | refine OpsDL.same ?_); first | refine oK C30 rfl rfl rfl ?_ | refine oK C31 rfl rfl rfl ?_ | refine oK k21 rfl rfl rfl ?_ | refine oK k3 rfl rfl rfl ?_ | refine oK k31 rfl rfl rfl ?_ | refine oK k39 rfl rfl rfl ?_) | refine MvQ.stay ?_))
            all_goals
              refine Sat.nilS 21 3 1 (fun i => r1 (([] : List Int).getD i 0)) rfl ?_
              refine Sat.lp (fun k : Nat => ⟨[(22, vi .i64 k), (21, .c (.ms 2 (accL (fun i => -c.getD i 0) k).length)), (20, .c (.bp 1 0)), (3, .c (.bp 0 0)), (7, .c (prs T)), (1, .c (ints c))],
                  [(2, rowv 3 1 r1 0 (accL (fun i => -c.getD i 0) k)), (1, .box [int (-x), int z, trs l]), (0, .box [int x, int z, trs l])], 3⟩)
                (fun k => k ≤ c.length) (fun k => c.length - k) 0 [0, 29, 30] (Nat.zero_le _) ?_ ?_
              · (refine qis ?_ ?_ <;> (repeat' first | exact rfl | (refine qS ?_; constructor)))
              · intro k hk
                have hm1 := accL_len (fun i => -c.getD i 0) k
                have hm4 := accL_succ (fun i => -c.getD i 0) k
                refine Fork.dec (fun hlt => ?_) (fun hlt => ?_)
                · have hlt : k < c.length := by omega
                  have hck := hcr k hlt
                  (repeat' first | (refine Owe.same ?_; first | refine Owe.o ?_ | refine Owe.mk ?_ ?_) | (refine Fork.same ?_; (first | refine fkY ?_ | refine fkF ?_ | ((first | refine fkD ?_ ?_ | refine fkN ?_ ?_ | refine fkM ?_ ?_) <;> intro h))) | ((first | refine OpsL.same ?_ | refine OpsDL.same ?_); first | refine oK c1 rfl rfl rfl ?_) | refine MvQ.stay ?_)
                  refine again (k + 1) [0, 1, 3] hlt (by omega) ?_
                  (refine qis ?_ ?_ <;> (repeat' first | exact rfl | (refine qS ?_; constructor)))
                  · rw [hm4]; simp
                  · exact hm4
                · have : k = c.length := by omega
                  subst this
                  (repeat' first | (refine Owe.same ?_; first | refine Owe.o ?_ | refine Owe.mk ?_ ?_) | (refine Fork.same ?_; (first | refine fkD ?_ ?_ | refine fkN ?_ ?_ | refine fkM ?_ ?_) <;> intro h))
                  refine MvQ.frz 21 _ rfl rfl (Nat.le_refl _) ?_
                  have hnR : (ngR T).length = T.length := by simp
                  (repeat' first | (refine Owe.same ?_; first | refine Owe.o ?_ | refine Owe.mk ?_ ?_) | (refine Fork.same ?_; (first | refine fkY ?_ | refine fkF ?_ | ((first | refine fkD ?_ ?_ | refine fkN ?_ ?_ | refine fkM ?_ ?_) <;> intro h))) | ((first | refine OpsL.same ?_ | refine OpsDL.same ?_); first | refine oK C30 rfl rfl rfl ?_ | refine oK C31 rfl rfl rfl ?_ | refine oK d4 rfl rfl rfl ?_) | refine MvQ.stay ?_)
                  refine Sat.lp (fun k : Nat => ⟨[(25, vi .i64 k), (23, .c (prs (ngR T))), (21, .c (ints (accL (fun i => -c.getD i 0) c.length))), (20, .c (.bp 1 0)), (3, .c (.bp 0 0)), (7, .c (prs T)), (1, .c (ints c))],
                      [(1, .box [int (-x), int z, trs l]), (0, .box [int x, int z, trs l])], 2⟩)
                    (fun k => k ≤ T.length) (fun k => T.length - k) 0 [0, 1] (Nat.zero_le _) ?_ ?_
                  · (refine qis ?_ ?_ <;> (repeat' first | exact rfl | (refine qS ?_; constructor)))
                  · intro k hk
                    refine Fork.dec (fun hlt => ?_) (fun hlt => ?_)
                    · have hlt : k < T.length := by omega
                      have hTk := hTb k (by omega)
                      have e3 : ((ngR T).getD k (0, 0)).1 = -(T.getD k (0, 0)).1 := by rw [ngR_get]
                      have e4 : ((ngR T).getD k (0, 0)).2 = (T.getD k (0, 0)).2 := by rw [ngR_get]
                      (repeat' first | (refine Owe.same ?_; first | refine Owe.o ?_ | refine Owe.mk ?_ ?_) | (refine Fork.same ?_; (first | refine fkY ?_ | refine fkF ?_ | ((first | refine fkD ?_ ?_ | refine fkN ?_ ?_ | refine fkM ?_ ?_) <;> intro h))) | ((first | refine OpsL.same ?_ | refine OpsDL.same ?_); first | refine oK c1 rfl rfl rfl ?_) | refine MvQ.stay ?_)
                      · exact (nnd h e3 e4).elim
                      · refine again (k + 1) [0, 1] hlt (by omega) ?_
                        (refine qis ?_ ?_ <;> (repeat' first | exact rfl | (refine qS ?_; constructor)))
                    · (repeat' first | (refine Owe.same ?_; first | refine Owe.o ?_ | refine Owe.mk ?_ ?_) | (refine Fork.same ?_; (first | refine fkY ?_ | refine fkF ?_ | ((first | refine fkD ?_ ?_ | refine fkN ?_ ?_ | refine fkM ?_ ?_) <;> intro h))) | ((first | refine OpsL.same ?_ | refine OpsDL.same ?_); first | refine oK C30 rfl rfl rfl ?_ | refine oK C31 rfl rfl rfl ?_ | refine oK d5 rfl rfl rfl ?_ | refine oK d6 rfl rfl rfl ?_ | refine oK d7 rfl rfl rfl ?_ | refine oK d8 rfl rfl rfl ?_ | refine oK d9 rfl rfl rfl ?_ | refine oK d10 rfl rfl rfl ?_ | refine oK c62 rfl rfl rfl ?_) | refine MvQ.stay ?_)
                      · (refine rqK rfl ?_; (repeat' first | exact rfl | (refine qS ?_; constructor)))
                      · exact (ndf h (by rw [hA]) (by rw [hA])).elim
      · generalize curE l.length c = e at *
        refine pi1 fn9 ?_
        (repeat' first | (refine Owe.same ?_; first | refine Owe.o ?_ | refine Owe.mk ?_ ?_) | (refine Fork.same ?_; (first | refine fkY ?_ | refine fkF ?_ | ((first | refine fkD ?_ ?_ | refine fkN ?_ ?_ | refine fkM ?_ ?_) <;> intro h))) | ((first | refine OpsL.same ?_ | refine OpsDL.same ?_); first | refine oK C15 rfl rfl rfl ?_ | refine oK C28 rfl rfl rfl ?_ | refine oK c1 rfl rfl rfl ?_ | refine oK c2 rfl rfl rfl ?_) | refine MvQ.stay ?_)
        (refine rqK rfl ?_; (repeat' first | exact rfl | (refine qS ?_; constructor)))
    · generalize (lineE x z l).2 = e at *
      refine pi1 fn9 ?_
      (repeat' first | (refine Owe.same ?_; first | refine Owe.o ?_ | refine Owe.mk ?_ ?_) | (refine Fork.same ?_; (first | refine fkY ?_ | refine fkF ?_ | ((first | refine fkD ?_ ?_ | refine fkN ?_ ?_ | refine fkM ?_ ?_) <;> intro h))) | ((first | refine OpsL.same ?_ | refine OpsDL.same ?_); first | refine oK C15 rfl rfl rfl ?_ | refine oK C28 rfl rfl rfl ?_ | refine oK c1 rfl rfl rfl ?_) | refine MvQ.stay ?_)
      (refine rqK rfl ?_; (repeat' first | exact rfl | (refine qS ?_; constructor)))
  · refine pi1 fn9 ?_
    (repeat' first | (refine Owe.same ?_; first | refine Owe.o ?_ | refine Owe.mk ?_ ?_) | (refine Fork.same ?_; (first | refine fkY ?_ | refine fkF ?_ | ((first | refine fkD ?_ ?_ | refine fkN ?_ ?_ | refine fkM ?_ ?_) <;> intro h))) | ((first | refine OpsL.same ?_ | refine OpsDL.same ?_); first | refine oK C15 rfl rfl rfl ?_ | refine oK C28 rfl rfl rfl ?_) | refine MvQ.stay ?_)
    (refine rqK rfl ?_; (repeat' first | exact rfl | (refine qS ?_; constructor)))
end Go.Pw

set_option linter.unusedSimpArgs false
namespace Go.Pw
set_option maxRecDepth 2000
open Go Go.Proofs A1 A2 A3 A4
theorem w64_i {n : Int} (h : IntKind.has .i64 n = true) : w64 n := by
  simp only [IntKind.has, IntKind.min, IntKind.max, IntKind.signed, IntKind.bits, Bool.and_eq_true, decide_eq_true_eq] at h
  simp at h
  exact ⟨by omega, by omega⟩
end Go.Pw

namespace Go.Proofs.Ytkoohllimmkmoaa
open Go.ChangeShapes Go.WideShapes Go.ChangeAt Go.RowKit Go.Pw
theorem Try.own : ownKnob Try.prog.godebug = none := by kernel_rfl
theorem Try.laidOut : laidOutB Try.prog = true := by kernel_rfl
theorem shapes : shAll Try.prog [49, 36, 23] = some [(true, [.int .i64, .int .i64, .sl [.int .i64, .int .i64, .int .i64]]), (false, [.sl [.int .i64]]), (true, [.int .i64, .int .i64])] := by kernel_rfl
theorem law (args : List V) (h : ArgOk [(true, [.int .i64, .int .i64, .sl [.int .i64, .int .i64, .int .i64]]), (false, [.sl [.int .i64]]), (true, [.int .i64, .int .i64])] args) : PFD Try.prog 9 args (vbl true) := by
  match args, h with
  | [v0, v1, v2], ⟨h0, h1, h2, _⟩ =>
    obtain ⟨x0, z0, l0, r0, q0⟩ := arg_line h0
    obtain ⟨l1, r1, q1⟩ := arg_ints h1
    obtain ⟨l2, rfl, q2⟩ := arg_pr h2
    exact PFD.ri (C9 (w64_i q2.1) (w64_i q2.2)) (.cons r0 (.cons r1 (.cons (RI.refl _) .nil)))
set_option maxRecDepth 100000 in
theorem lifted (os : Os) (started : os.Started) (H : Type) (enc : TypeId × Value → H) :
    ReturnsInHanded {} Try.checked os 9 .any (Rows.cableBalanceSpec.pre6 enc Try.prog Try.f9 Rows.cableBalanceRow.domain false) (Rows.cableBalanceSpec.post enc Try.prog Try.f9 false true false false) := by
  refine returnsInHanded_of_change (C := Try.checked) Try.own started (by kernel_rfl) Try.func9
    (ChangeSpec.witness6 (enc := enc) (C := Try.checked) false ⟨#[], #[.agg #[.int .i64 0, .int .i64 0, .slice none 0 0], .slice none 0 0, .agg #[.int .i64 0, .int .i64 0]], []⟩ 8 (by kernel_rfl) (by kernel_rfl) (by kernel_rfl) (by kernel_rfl)) ?_
  intro W base args ds gs before hval0 hW hcnd _
  exact law_calls (P := Try.prog) (F := Try.f9) (tb := 4) Try.laidOut (by rw [Try.params9]; exact shapes) rfl (fun ds hl => by
    rw [Try.params9] at hl
    match ds, hl with
    | [d0, d1, d2], _ => rfl) (by kernel_rfl) Try.underlying4 law W base args ds gs before hval0 hW
theorem row_holds : Rows.CableBalanceSaid :=
  OpenClaim.holds_of_wide 9 Try.f9 rfl rfl rfl rfl rfl rfl rfl ⟨rfl, rfl, rfl, rfl, rfl⟩ rfl rfl rfl rfl rfl (by kernel_rfl) Try.func9 (by kernel_rfl)
    (of_decide_eq_true (by kernel_rfl)) (by unfold Func.isWrapper; rw [if_neg (by decide +kernel)]; exact ⟨rfl, rfl⟩)
    (fun os started H enc _ => lifted os started H enc)
end Go.Proofs.Ytkoohllimmkmoaa
