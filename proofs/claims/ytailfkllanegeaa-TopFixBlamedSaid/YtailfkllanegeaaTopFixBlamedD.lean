/- Steps toward the row of this claim: part 4 of 5. Proved as named below, on no condition but those that each theorem states. -/
import Derived.Test.YtailfkllanegeaaTopFixBlamedC
import Derived.Test.YtailfkllanegeaaProg
set_option linter.unusedSimpArgs false
set_option linter.unusedVariables false
set_option maxHeartbeats 1000000
namespace Go.Pw
set_option maxRecDepth 2000
open Go Go.Proofs A1 A2 A3 A4
theorem succ_all {P : Nat → Prop} {k : Nat} (h : ∀ i, i < k → P i) (hk : P k) : ∀ i, i < k + 1 → P i := fun i hi => by
  rcases Nat.lt_succ_iff_lt_or_eq.1 hi with h3 | rfl
  · exact h i h3
  · exact hk
abbrev nmI (s : ByteArray) (i : Nat) : Int := ((s.data.toList.getD i 0).toNat : Int)
abbrev chP (c : Int) (i : Nat) : Prop := ((97 ≤ c ∧ c ≤ 122) ∨ (65 ≤ c ∧ c ≤ 90)) ∨ ((i : Int) ≠ 0 ∧ (c = 45 ∨ (48 ≤ c ∧ c ≤ 57)))
abbrev nmP (s : ByteArray) : Prop := (∀ i, i < s.size → chP (nmI s i) i) ∧ 1 ≤ (s.size : Int) ∧ (s.size : Int) ≤ 12
abbrev str (s : ByteArray) : C := .d (.v (.string s))
theorem C107 {s : ByteArray} : s.size ≤ 9223372036854775807 → PFD Try.prog 107 [.c (str s)] (vbl (decide (nmP s))) := fun hs => by
  refine pi1 fn107 ?_
  by_cases hz : 1 ≤ (s.size : Int) ∧ (s.size : Int) ≤ 12
  · (repeat' first | (refine Owe.same ?_; first | refine Owe.o ?_ | refine Owe.mk ?_ ?_) | (refine Fork.same ?_; (first | refine fkY ?_ | refine fkF ?_ | ((first | refine fkD ?_ ?_ | refine fkN ?_ ?_ | refine fkM ?_ ?_) <;> intro h))) | ((first | refine OpsL.same ?_ | refine OpsDL.same ?_); first | refine oK C6 rfl rfl rfl ?_) | refine MvQ.stay ?_)
    refine Sat.lp0 (fun k : Nat => [(3, vi .i64 k), (0, .c (str s))]) (fun k => k ≤ s.size ∧ ∀ i, i < k → chP (nmI s i) i) (fun k => s.size - k) 0 ⟨Nat.zero_le _, fun i hi => by omega⟩ (by ((first | refine qen ?_ | refine qvs ?_ | refine qeq ?_ | refine qst ?_ | refine qv ?_ | refine qc ?_ | refine qe ?_ | refine qcs ?_ | skip); (repeat' first | exact rfl | (refine qS ?_; constructor)))) ?_
    intro k hk
    refine Fork.dec (fun hlt => ?_) (fun hlt => ?_)
    · have hlt : k < s.size := by omega
      have cont : chP (nmI s k) k → ∀ i, i < k + 1 → chP (nmI s i) i := fun h => succ_all hk.2 h
      have stop : ¬ chP (nmI s k) k → decide (nmP s) = false := fun h => by
        rw [decide_eq_false_iff_not]; exact fun hh => h (hh.1 k hlt)
      (repeat' first | (refine Owe.same ?_; first | refine Owe.o ?_ | refine Owe.mk ?_ ?_) | (refine Fork.same ?_; (first | refine fkD ?_ ?_ | refine fkN ?_ ?_ | refine fkM ?_ ?_) <;> intro h) | refine MvQ.stay ?_)
      all_goals simp only [Int.toNat_natCast] at *
      all_goals first
        | refine again0 (k + 1) ⟨hlt, cont (by simp only [chP, nmI]; omega)⟩ (by omega) (by ((first | refine qen ?_ | refine qvs ?_ | refine qeq ?_ | refine qst ?_ | refine qv ?_ | refine qc ?_ | refine qe ?_ | refine qcs ?_ | skip); (repeat' first | exact rfl | (refine qS ?_; constructor))))
        | (refine rqK rfl ?_; (repeat' first | exact rfl | (refine qS ?_; constructor))); exact stop (by simp only [chP, nmI]; omega)
    · have : k = s.size := by omega
      subst this
      (repeat' first | (refine Owe.same ?_; first | refine Owe.o ?_ | refine Owe.mk ?_ ?_) | (refine Fork.same ?_; (first | refine fkD ?_ ?_ | refine fkN ?_ ?_ | refine fkM ?_ ?_) <;> intro h) | refine MvQ.stay ?_)
      (refine rqK rfl ?_; (repeat' first | exact rfl | (refine qS ?_; constructor)))
      exact decide_eq_true ⟨hk.2, hz⟩
  · have hf : decide (nmP s) = false := decide_eq_false fun h => hz h.2
    (repeat' first | (refine Owe.same ?_; first | refine Owe.o ?_ | refine Owe.mk ?_ ?_) | (refine Fork.same ?_; (first | refine fkY ?_ | refine fkF ?_ | ((first | refine fkD ?_ ?_ | refine fkN ?_ ?_ | refine fkM ?_ ?_) <;> intro h))) | ((first | refine OpsL.same ?_ | refine OpsDL.same ?_); first | refine oK C6 rfl rfl rfl ?_) | refine MvQ.stay ?_)
    all_goals first | ((refine rqK rfl ?_; (repeat' first | exact rfl | (refine qS ?_; constructor))); exact hf.symm) | ((refine rqK rfl ?_; (repeat' first | exact rfl | (refine qS ?_; constructor))); exact hf)
abbrev byD (s : ByteArray) : C := .d (.sl 1 s.size fun i => [.v (.int .u8 (s.data.toList.getD i 0).toNat)])
theorem C131 {s : ByteArray} : nmP s → PFD Try.prog 131 [.c (str s)] (vbl true) := fun hn => by
  have hz := hn.2
  refine pi1 fn131 ?_
  (repeat' first | (refine Owe.same ?_; first | refine Owe.o ?_ | refine Owe.mk ?_ ?_) | (refine Fork.same ?_; (first | refine fkD ?_ ?_ | refine fkN ?_ ?_ | refine fkM ?_ ?_) <;> intro h) | refine MvQ.stay ?_)
  refine Sat.lp0 (fun k : Nat => [(10, vi .i64 k), (9, vi .i64 s.size), (8, .c (byD s)), (0, .c (str s))]) (fun k => k ≤ s.size) (fun k => s.size - k) 0 (Nat.zero_le _) (by ((first | refine qen ?_ | refine qvs ?_ | refine qeq ?_ | refine qst ?_ | refine qv ?_ | refine qc ?_ | refine qe ?_ | refine qcs ?_ | skip); (repeat' first | exact rfl | (refine qS ?_; constructor)))) ?_
  intro k hk
  refine Fork.dec (fun hlt => ?_) (fun hlt => ?_)
  · have hlt : k < s.size := by omega
    have hc := hn.1 k hlt
    simp only [chP, nmI] at hc
    (repeat' first | (refine Owe.same ?_; first | refine Owe.o ?_ | refine Owe.mk ?_ ?_) | (refine Fork.same ?_; (first | refine fkD ?_ ?_ | refine fkN ?_ ?_ | refine fkM ?_ ?_) <;> intro h) | refine MvQ.stay ?_)
    all_goals simp only [Int.toNat_natCast] at *
    all_goals first
      | refine again0 (k + 1) hlt (by omega) (by ((first | refine qen ?_ | refine qvs ?_ | refine qeq ?_ | refine qst ?_ | refine qv ?_ | refine qc ?_ | refine qe ?_ | refine qcs ?_ | skip); (repeat' first | exact rfl | (refine qS ?_; constructor))))
      | (exfalso; omega)
  · have : k = s.size := by omega
    subst this
    have c := C93 (n := (s.size : Int)) (lo := 1) (hi := 12)
    rw [decide_eq_true hz] at c
    (repeat' first | (refine Owe.same ?_; first | refine Owe.o ?_ | refine Owe.mk ?_ ?_) | (refine Fork.same ?_; (first | refine fkY ?_ | refine fkF ?_ | ((first | refine fkD ?_ ?_ | refine fkN ?_ ?_ | refine fkM ?_ ?_) <;> intro h))) | ((first | refine OpsL.same ?_ | refine OpsDL.same ?_); first | refine oK c rfl rfl rfl ?_) | refine MvQ.stay ?_)
    (refine rqK rfl ?_; (repeat' first | exact rfl | (refine qS ?_; constructor)))
theorem C138R {g : FuncId} {rows : List (List D)} {l : List (Int × Int)} (hg : ∀ i, i < l.length → PFD Try.prog g (rgv (l.getD i (0, 0)) :: rows.map fun r => .c (.rp r)) (vbl false)) : l.length ≤ 1000000 → PFD Try.prog 138 [.c (rgs l), .c (.fnR g rows)] (vi .i64 (-1)) := fun hl => by
  refine pi1 fn138 ?_
  (repeat' first | (refine Owe.same ?_; first | refine Owe.o ?_ | refine Owe.mk ?_ ?_) | (refine Fork.same ?_; (first | refine fkD ?_ ?_ | refine fkN ?_ ?_ | refine fkM ?_ ?_) <;> intro h) | refine MvQ.stay ?_)
  refine Sat.lp0 (fun k : Nat => [(8, vi .i64 k), (7, vi .i64 l.length), (6, .c (rgs l)), (0, .c (rgs l)), (1, .c (.fnR g rows))]) (fun k => k ≤ l.length) (fun k => l.length - k) 0 (Nat.zero_le _) (by ((first | refine qen ?_ | refine qvs ?_ | refine qeq ?_ | refine qst ?_ | refine qv ?_ | refine qc ?_ | refine qe ?_ | refine qcs ?_ | skip); (repeat' first | exact rfl | (refine qS ?_; constructor)))) ?_
  intro k hk
  refine Fork.dec (fun hlt => ?_) (fun hlt => ?_)
  · have hlt : k < l.length := by omega
    (repeat' first | (refine Owe.same ?_; first | refine Owe.o ?_ | refine Owe.mk ?_ ?_) | (refine Fork.same ?_; (first | refine fkD ?_ ?_ | refine fkN ?_ ?_ | refine fkM ?_ ?_) <;> intro h) | ((first | refine OpsL.same ?_ | refine OpsDL.same ?_); first | refine pR (hg k hlt) rfl rfl ?_) | refine MvQ.stay ?_)
    · rename_i h; cases h
    · exact again0 (k + 1) hlt (by omega) (by ((first | refine qen ?_ | refine qvs ?_ | refine qeq ?_ | refine qst ?_ | refine qv ?_ | refine qc ?_ | refine qe ?_ | refine qcs ?_ | skip); (repeat' first | exact rfl | (refine qS ?_; constructor))))
  · have : k = l.length := by omega
    subst this
    (repeat' first | (refine Owe.same ?_; first | refine Owe.o ?_ | refine Owe.mk ?_ ?_) | (refine Fork.same ?_; (first | refine fkD ?_ ?_ | refine fkN ?_ ?_ | refine fkM ?_ ?_) <;> intro h) | refine MvQ.stay ?_)
    (refine rqK rfl ?_; (repeat' first | exact rfl | (refine qS ?_; constructor)))
theorem C138f {g : FuncId} {l : List (Int × Int)} (hg : ∀ i, i < l.length → PFD Try.prog g [rgv (l.getD i (0, 0))] (vbl false)) : l.length ≤ 1000000 → PFD Try.prog 138 [.c (rgs l), .c (.fn g [])] (vi .i64 (-1)) := fun hl => by
  refine pi1 fn138 ?_
  (repeat' first | (refine Owe.same ?_; first | refine Owe.o ?_ | refine Owe.mk ?_ ?_) | (refine Fork.same ?_; (first | refine fkD ?_ ?_ | refine fkN ?_ ?_ | refine fkM ?_ ?_) <;> intro h) | refine MvQ.stay ?_)
  refine Sat.lp0 (fun k : Nat => [(8, vi .i64 k), (7, vi .i64 l.length), (6, .c (rgs l)), (0, .c (rgs l)), (1, .c (.fn g []))]) (fun k => k ≤ l.length) (fun k => l.length - k) 0 (Nat.zero_le _) (by ((first | refine qen ?_ | refine qvs ?_ | refine qeq ?_ | refine qst ?_ | refine qv ?_ | refine qc ?_ | refine qe ?_ | refine qcs ?_ | skip); (repeat' first | exact rfl | (refine qS ?_; constructor)))) ?_
  intro k hk
  refine Fork.dec (fun hlt => ?_) (fun hlt => ?_)
  · have hlt : k < l.length := by omega
    (repeat' first | (refine Owe.same ?_; first | refine Owe.o ?_ | refine Owe.mk ?_ ?_) | (refine Fork.same ?_; (first | refine fkD ?_ ?_ | refine fkN ?_ ?_ | refine fkM ?_ ?_) <;> intro h) | ((first | refine OpsL.same ?_ | refine OpsDL.same ?_); first | refine pK (hg k hlt) rfl rfl ?_) | refine MvQ.stay ?_)
    · rename_i h; cases h
    · exact again0 (k + 1) hlt (by omega) (by ((first | refine qen ?_ | refine qvs ?_ | refine qeq ?_ | refine qst ?_ | refine qv ?_ | refine qc ?_ | refine qe ?_ | refine qcs ?_ | skip); (repeat' first | exact rfl | (refine qS ?_; constructor))))
  · have : k = l.length := by omega
    subst this
    (repeat' first | (refine Owe.same ?_; first | refine Owe.o ?_ | refine Owe.mk ?_ ?_) | (refine Fork.same ?_; (first | refine fkD ?_ ?_ | refine fkN ?_ ?_ | refine fkM ?_ ?_) <;> intro h) | refine MvQ.stay ?_)
    (refine rqK rfl ?_; (repeat' first | exact rfl | (refine qS ?_; constructor)))
theorem C137f {g : FuncId} {l : List Int} (hg : ∀ i, i < l.length → PFD Try.prog g [vi .i64 (l.getD i 0)] (vbl false)) : l.length ≤ 1000000 → PFD Try.prog 137 [.c (ints l), .c (.fn g [])] (vi .i64 (-1)) := fun hl => by
  refine pi1 fn137 ?_
  (repeat' first | (refine Owe.same ?_; first | refine Owe.o ?_ | refine Owe.mk ?_ ?_) | (refine Fork.same ?_; (first | refine fkD ?_ ?_ | refine fkN ?_ ?_ | refine fkM ?_ ?_) <;> intro h) | refine MvQ.stay ?_)
  refine Sat.lp0 (fun k : Nat => [(8, vi .i64 k), (7, vi .i64 l.length), (6, .c (ints l)), (0, .c (ints l)), (1, .c (.fn g []))]) (fun k => k ≤ l.length) (fun k => l.length - k) 0 (Nat.zero_le _) (by ((first | refine qen ?_ | refine qvs ?_ | refine qeq ?_ | refine qst ?_ | refine qv ?_ | refine qc ?_ | refine qe ?_ | refine qcs ?_ | skip); (repeat' first | exact rfl | (refine qS ?_; constructor)))) ?_
  intro k hk
  refine Fork.dec (fun hlt => ?_) (fun hlt => ?_)
  · have hlt : k < l.length := by omega
    (repeat' first | (refine Owe.same ?_; first | refine Owe.o ?_ | refine Owe.mk ?_ ?_) | (refine Fork.same ?_; (first | refine fkD ?_ ?_ | refine fkN ?_ ?_ | refine fkM ?_ ?_) <;> intro h) | ((first | refine OpsL.same ?_ | refine OpsDL.same ?_); first | refine pK (hg k hlt) rfl rfl ?_) | refine MvQ.stay ?_)
    · rename_i h; cases h
    · exact again0 (k + 1) hlt (by omega) (by ((first | refine qen ?_ | refine qvs ?_ | refine qeq ?_ | refine qst ?_ | refine qv ?_ | refine qc ?_ | refine qe ?_ | refine qcs ?_ | skip); (repeat' first | exact rfl | (refine qS ?_; constructor))))
  · have : k = l.length := by omega
    subst this
    (repeat' first | (refine Owe.same ?_; first | refine Owe.o ?_ | refine Owe.mk ?_ ?_) | (refine Fork.same ?_; (first | refine fkD ?_ ?_ | refine fkN ?_ ?_ | refine fkM ?_ ?_) <;> intro h) | refine MvQ.stay ?_)
    (refine rqK rfl ?_; (repeat' first | exact rfl | (refine qS ?_; constructor)))
theorem C136R {g : FuncId} {rows : List (List D)} {l : List FxN} (hg : ∀ i, i < l.length → PFD Try.prog g (bnv (l.getD i fxn0) :: rows.map fun r => .c (.rp r)) (vbl false)) : l.length ≤ 1000000 → PFD Try.prog 136 [.c (bns l), .c (.fnR g rows)] (vi .i64 (-1)) := fun hl => by
  refine pi1 fn136 ?_
  (repeat' first | (refine Owe.same ?_; first | refine Owe.o ?_ | refine Owe.mk ?_ ?_) | (refine Fork.same ?_; (first | refine fkD ?_ ?_ | refine fkN ?_ ?_ | refine fkM ?_ ?_) <;> intro h) | refine MvQ.stay ?_)
  refine Sat.lp0 (fun k : Nat => [(8, vi .i64 k), (7, vi .i64 l.length), (6, .c (bns l)), (0, .c (bns l)), (1, .c (.fnR g rows))]) (fun k => k ≤ l.length) (fun k => l.length - k) 0 (Nat.zero_le _) (by ((first | refine qen ?_ | refine qvs ?_ | refine qeq ?_ | refine qst ?_ | refine qv ?_ | refine qc ?_ | refine qe ?_ | refine qcs ?_ | skip); (repeat' first | exact rfl | (refine qS ?_; constructor)))) ?_
  intro k hk
  refine Fork.dec (fun hlt => ?_) (fun hlt => ?_)
  · have hlt : k < l.length := by omega
    (repeat' first | (refine Owe.same ?_; first | refine Owe.o ?_ | refine Owe.mk ?_ ?_) | (refine Fork.same ?_; (first | refine fkD ?_ ?_ | refine fkN ?_ ?_ | refine fkM ?_ ?_) <;> intro h) | ((first | refine OpsL.same ?_ | refine OpsDL.same ?_); first | refine pR (hg k hlt) rfl rfl ?_) | refine MvQ.stay ?_)
    · rename_i h; cases h
    · exact again0 (k + 1) hlt (by omega) (by ((first | refine qen ?_ | refine qvs ?_ | refine qeq ?_ | refine qst ?_ | refine qv ?_ | refine qc ?_ | refine qe ?_ | refine qcs ?_ | skip); (repeat' first | exact rfl | (refine qS ?_; constructor))))
  · have : k = l.length := by omega
    subst this
    (repeat' first | (refine Owe.same ?_; first | refine Owe.o ?_ | refine Owe.mk ?_ ?_) | (refine Fork.same ?_; (first | refine fkD ?_ ?_ | refine fkN ?_ ?_ | refine fkM ?_ ?_) <;> intro h) | refine MvQ.stay ?_)
    (refine rqK rfl ?_; (repeat' first | exact rfl | (refine qS ?_; constructor)))
theorem C132R {g : FuncId} {rows : List (List D)} {l : List (Int × Int)} (hg : ∀ i, i < l.length → PFD Try.prog g (rgv (l.getD i (0, 0)) :: rows.map fun r => .c (.rp r)) (vbl false)) : l.length ≤ 1000000 → PFD Try.prog 132 [.c (rgs l), .c (.fnR g rows)] (vbl false) := fun hl => by
  refine pi1 fn132 ?_
  (repeat' first | (refine Owe.same ?_; first | refine Owe.o ?_ | refine Owe.mk ?_ ?_) | (refine Fork.same ?_; (first | refine fkD ?_ ?_ | refine fkN ?_ ?_ | refine fkM ?_ ?_) <;> intro h) | ((first | refine OpsL.same ?_ | refine OpsDL.same ?_); first | refine pK (C138R hg hl) rfl rfl ?_) | refine MvQ.stay ?_)
  (refine rqK rfl ?_; (repeat' first | exact rfl | (refine qS ?_; constructor)))
theorem C132f {g : FuncId} {l : List (Int × Int)} (hg : ∀ i, i < l.length → PFD Try.prog g [rgv (l.getD i (0, 0))] (vbl false)) : l.length ≤ 1000000 → PFD Try.prog 132 [.c (rgs l), .c (.fn g [])] (vbl false) := fun hl => by
  refine pi1 fn132 ?_
  (repeat' first | (refine Owe.same ?_; first | refine Owe.o ?_ | refine Owe.mk ?_ ?_) | (refine Fork.same ?_; (first | refine fkD ?_ ?_ | refine fkN ?_ ?_ | refine fkM ?_ ?_) <;> intro h) | ((first | refine OpsL.same ?_ | refine OpsDL.same ?_); first | refine pK (C138f hg hl) rfl rfl ?_) | refine MvQ.stay ?_)
  (refine rqK rfl ?_; (repeat' first | exact rfl | (refine qS ?_; constructor)))
theorem C128f {g : FuncId} {l : List Int} (hg : ∀ i, i < l.length → PFD Try.prog g [vi .i64 (l.getD i 0)] (vbl false)) : l.length ≤ 1000000 → PFD Try.prog 128 [.c (ints l), .c (.fn g [])] (vbl false) := fun hl => by
  refine pi1 fn128 ?_
  (repeat' first | (refine Owe.same ?_; first | refine Owe.o ?_ | refine Owe.mk ?_ ?_) | (refine Fork.same ?_; (first | refine fkD ?_ ?_ | refine fkN ?_ ?_ | refine fkM ?_ ?_) <;> intro h) | ((first | refine OpsL.same ?_ | refine OpsDL.same ?_); first | refine pK (C137f hg hl) rfl rfl ?_) | refine MvQ.stay ?_)
  (refine rqK rfl ?_; (repeat' first | exact rfl | (refine qS ?_; constructor)))
theorem C126R {g : FuncId} {rows : List (List D)} {l : List FxN} (hg : ∀ i, i < l.length → PFD Try.prog g (bnv (l.getD i fxn0) :: rows.map fun r => .c (.rp r)) (vbl false)) : l.length ≤ 1000000 → PFD Try.prog 126 [.c (bns l), .c (.fnR g rows)] (vbl false) := fun hl => by
  refine pi1 fn126 ?_
  (repeat' first | (refine Owe.same ?_; first | refine Owe.o ?_ | refine Owe.mk ?_ ?_) | (refine Fork.same ?_; (first | refine fkD ?_ ?_ | refine fkN ?_ ?_ | refine fkM ?_ ?_) <;> intro h) | ((first | refine OpsL.same ?_ | refine OpsDL.same ?_); first | refine pK (C136R hg hl) rfl rfl ?_) | refine MvQ.stay ?_)
  (refine rqK rfl ?_; (repeat' first | exact rfl | (refine qS ?_; constructor)))
theorem C133 {r : Int × Int} : r.1 ≤ r.2 → PFD Try.prog 133 [rgv r] (vbl false) := fun h => by
  have e : decide (r.2 < r.1) = false := decide_eq_false (by omega)
  refine pi1 fn133 ?_
  (repeat' first | (refine Owe.same ?_; first | refine Owe.o ?_ | refine Owe.mk ?_ ?_) | (refine Fork.same ?_; (first | refine fkD ?_ ?_ | refine fkN ?_ ?_ | refine fkM ?_ ?_) <;> intro h) | refine MvQ.stay ?_)
  (refine rqK rfl ?_; (repeat' first | exact rfl | (refine qS ?_; constructor)))
  exact e
theorem C135 {r : Int × Int} {m : Int} : ((0 ≤ m ∧ m ≤ 100000) ∧ (-m ≤ r.1 ∧ r.1 ≤ m) ∧ -m ≤ r.2 ∧ r.2 ≤ m) → PFD Try.prog 135 [rgv r, .c (.rp [dI m])] (vbl false) := fun ⟨hm, h1, h2⟩ => by
  have c1 := C130 (n := r.1) hm
  have c2 := C130 (n := r.2) hm
  rw [decide_eq_true h1] at c1
  rw [decide_eq_true h2] at c2
  refine pi1 fn135 ?_
  (repeat' first | (refine Owe.same ?_; first | refine Owe.o ?_ | refine Owe.mk ?_ ?_) | (refine Fork.same ?_; (first | refine fkY ?_ | refine fkF ?_ | ((first | refine fkD ?_ ?_ | refine fkN ?_ ?_ | refine fkM ?_ ?_) <;> intro h))) | ((first | refine OpsL.same ?_ | refine OpsDL.same ?_); first | refine oK c1 rfl rfl rfl ?_ | refine oK c2 rfl rfl rfl ?_) | refine MvQ.stay ?_)
  (refine rqK rfl ?_; (repeat' first | exact rfl | (refine qS ?_; constructor)))
theorem C129 {n : Int} : (-10000 ≤ n ∧ n ≤ 10000) → PFD Try.prog 129 [vi .i64 n] (vbl false) := fun h => by
  have c := C130 (n := n) (m := 10000) (by decide)
  rw [decide_eq_true h] at c
  refine pi1 fn129 ?_
  (repeat' first | (refine Owe.same ?_; first | refine Owe.o ?_ | refine Owe.mk ?_ ?_) | (refine Fork.same ?_; (first | refine fkY ?_ | refine fkF ?_ | ((first | refine fkD ?_ ?_ | refine fkN ?_ ?_ | refine fkM ?_ ?_) <;> intro h))) | ((first | refine OpsL.same ?_ | refine OpsDL.same ?_); first | refine oK c rfl rfl rfl ?_) | refine MvQ.stay ?_)
  (refine rqK rfl ?_; (repeat' first | exact rfl | (refine qS ?_; constructor)))
theorem C127 {o b : FxN} : ¬ o.1.data.toList = b.1.data.toList → PFD Try.prog 127 [bnv o, .c (.rp (bnD b))] (vbl false) := fun h => by
  have e : decide (o.1.data.toList = b.1.data.toList) = false := decide_eq_false h
  refine pi1 fn127 ?_
  (repeat' first | (refine Owe.same ?_; first | refine Owe.o ?_ | refine Owe.mk ?_ ?_) | (refine Fork.same ?_; (first | refine fkD ?_ ?_ | refine fkN ?_ ?_ | refine fkM ?_ ?_) <;> intro h) | refine MvQ.stay ?_)
  (refine rqK rfl ?_; (repeat' first | exact rfl | (refine qS ?_; constructor)))
  exact e
theorem sl3 {a : FxB} : VEq (.c (.d (.sl 2 3 fun i => ((bxD a).drop (i * 2)).take 2))) (.c (rgs [a.1, a.2.1, a.2.2])) := .c _ _ (CEq.sl rfl fun i hi => by
  rcases (show i = 0 ∨ i = 1 ∨ i = 2 by omega) with rfl | rfl | rfl <;> rfl)
theorem sl3i {p : FxP} : VEq (.c (.d (.sl 1 3 fun i => ([dI p.1, dI p.2.1, dI p.2.2].drop (i * 1)).take 1))) (.c (ints [p.1, p.2.1, p.2.2])) := .c _ _ (CEq.sl rfl fun i hi => by
  rcases (show i = 0 ∨ i = 1 ∨ i = 2 by omega) with rfl | rfl | rfl <;> rfl)
structure OrdB (a : FxB) : Prop where
  x : a.1.1 ≤ a.1.2
  y : a.2.1.1 ≤ a.2.1.2
  z : a.2.2.1 ≤ a.2.2.2
structure SizB (m : Int) (a : FxB) : Prop where
  x : (-m ≤ a.1.1 ∧ a.1.1 ≤ m) ∧ -m ≤ a.1.2 ∧ a.1.2 ≤ m
  y : (-m ≤ a.2.1.1 ∧ a.2.1.1 ≤ m) ∧ -m ≤ a.2.1.2 ∧ a.2.1.2 ≤ m
  z : (-m ≤ a.2.2.1 ∧ a.2.2.1 ≤ m) ∧ -m ≤ a.2.2.2 ∧ a.2.2.2 ≤ m
theorem C109 {a : FxB} : OrdB a → PFD Try.prog 109 [bxv a] (vbl true) := fun h => by
  have c := C132f (g := 133) (l := [a.1, a.2.1, a.2.2]) (fun i hi => C133 (by
    rcases (show i = 0 ∨ i = 1 ∨ i = 2 by simp at hi; omega) with rfl | rfl | rfl
    · exact h.x
    · exact h.y
    · exact h.z)) (by simp)
  refine pi1 fn109 ?_
  (repeat' first | (refine Owe.same ?_; first | refine Owe.o ?_ | refine Owe.mk ?_ ?_) | (refine Fork.same ?_; (first | refine fkD ?_ ?_ | refine fkN ?_ ?_ | refine fkM ?_ ?_) <;> intro h) | refine MvQ.stay ?_)
  refine OpsL.as 3 (.c (rgs [a.1, a.2.1, a.2.2])) sl3 ?_
  (repeat' first | (refine Owe.same ?_; first | refine Owe.o ?_ | refine Owe.mk ?_ ?_) | (refine Fork.same ?_; (first | refine fkY ?_ | refine fkF ?_ | ((first | refine fkD ?_ ?_ | refine fkN ?_ ?_ | refine fkM ?_ ?_) <;> intro h))) | ((first | refine OpsL.same ?_ | refine OpsDL.same ?_); first | refine oK c rfl rfl rfl ?_) | refine MvQ.stay ?_)
  (refine rqK rfl ?_; (repeat' first | exact rfl | (refine qS ?_; constructor)))
theorem C123 {a : FxB} {m : Int} : ((0 ≤ m ∧ m ≤ 100000) ∧ SizB m a) → PFD Try.prog 123 [bxv a, vi .i64 m] (vbl true) := fun ⟨hm, h⟩ => by
  have c := C132R (g := 135) (rows := [[dI m]]) (l := [a.1, a.2.1, a.2.2]) (fun i hi => C135 ⟨hm, by
    rcases (show i = 0 ∨ i = 1 ∨ i = 2 by simp at hi; omega) with rfl | rfl | rfl
    · exact h.x
    · exact h.y
    · exact h.z⟩) (by simp)
  refine pi1 fn123 ?_
  (repeat' first | (refine Owe.same ?_; first | refine Owe.o ?_ | refine Owe.mk ?_ ?_) | (refine Fork.same ?_; (first | refine fkD ?_ ?_ | refine fkN ?_ ?_ | refine fkM ?_ ?_) <;> intro h) | refine MvQ.stay ?_)
  refine OpsL.as 5 (.c (rgs [a.1, a.2.1, a.2.2])) sl3 ?_
  (repeat' first | (refine Owe.same ?_; first | refine Owe.o ?_ | refine Owe.mk ?_ ?_) | (refine Fork.same ?_; (first | refine fkY ?_ | refine fkF ?_ | ((first | refine fkD ?_ ?_ | refine fkN ?_ ?_ | refine fkM ?_ ?_) <;> intro h))) | ((first | refine OpsL.same ?_ | refine OpsDL.same ?_); first | refine oK c rfl rfl rfl ?_) | refine MvQ.stay ?_)
  (refine rqK rfl ?_; (repeat' first | exact rfl | (refine qS ?_; constructor)))
structure HasB' (a o : FxB) : Prop where
  x : a.1.1 ≤ o.1.1 ∧ o.1.2 ≤ a.1.2
  y : a.2.1.1 ≤ o.2.1.1 ∧ o.2.1.2 ≤ a.2.1.2
  z : a.2.2.1 ≤ o.2.2.1 ∧ o.2.2.2 ≤ a.2.2.2
theorem C110 {a o : FxB} : HasB' a o → PFD Try.prog 110 [bxv a, bxv o] (vbl true) := fun h => by
  have hx := h.x
  have hy := h.y
  have hz := h.z
  refine pi1 fn110 ?_
  (repeat' first | (refine Owe.same ?_; first | refine Owe.o ?_ | refine Owe.mk ?_ ?_) | (refine Fork.same ?_; (first | refine fkD ?_ ?_ | refine fkN ?_ ?_ | refine fkM ?_ ?_) <;> (intro h; try (exfalso; omega))) | refine MvQ.stay ?_)
  refine Sat.rd 3 ?_
  (repeat' first | (refine Owe.same ?_; first | refine Owe.o ?_ | refine Owe.mk ?_ ?_) | (refine Fork.same ?_; (first | refine fkD ?_ ?_ | refine fkN ?_ ?_ | refine fkM ?_ ?_) <;> (intro h; try (exfalso; omega))) | refine MvQ.stay ?_)
  (refine rqK rfl ?_; (repeat' first | exact rfl | (refine qS ?_; constructor)))
theorem C106 {a o : FxB} : OrdB (cmnB a o) → PFD Try.prog 106 [bxv a, bxv o] (.tup [bxv (cmnB a o), vbl true]) := fun h => by
  have c := C109 h
  refine pi2 fn106 ?_
  (repeat' first | (refine Owe.same ?_; first | refine Owe.o ?_ | refine Owe.mk ?_ ?_) | (refine Fork.same ?_; (first | refine fkD ?_ ?_ | refine fkN ?_ ?_ | refine fkM ?_ ?_) <;> (intro h; try (exfalso; omega))) | refine MvQ.stay ?_)
  refine Sat.rd 3 ?_
  (repeat' first | (refine Owe.same ?_; first | refine Owe.o ?_ | refine Owe.mk ?_ ?_) | (refine Fork.same ?_; (first | refine fkD ?_ ?_ | refine fkN ?_ ?_ | refine fkM ?_ ?_) <;> (intro h; try (exfalso; omega))) | ((first | refine OpsL.same ?_ | refine OpsDL.same ?_); first | refine pK c rfl rfl ?_) | refine MvQ.stay ?_)
  (refine rqK rfl ?_; (repeat' first | exact rfl | (refine qS ?_; constructor)))
theorem dim_bd {r : Int × Int} (h : (-10000 ≤ r.1 ∧ r.1 ≤ 10000) ∧ -10000 ≤ r.2 ∧ r.2 ≤ 10000) : -20001 ≤ r.2 - r.1 + 1 ∧ r.2 - r.1 + 1 ≤ 20001 := by omega
abbrev s1B (a : FxB) : Int := 1 * (a.1.2 - a.1.1 + 1)
abbrev s2B (a : FxB) : Int := s1B a * (a.2.1.2 - a.2.1.1 + 1)
abbrev s3B (a : FxB) : Int := s2B a * (a.2.2.2 - a.2.2.1 + 1)
theorem sz_bd {a : FxB} (h : SizB 10000 a) : (-20001 ≤ s1B a ∧ s1B a ≤ 20001) ∧ (-400040001 ≤ s2B a ∧ s2B a ≤ 400040001) ∧ -8001200060001 ≤ s3B a ∧ s3B a ≤ 8001200060001 := by
  have h1 := dim_bd h.x
  have h2 := dim_bd h.y
  have h3 := dim_bd h.z
  have g1 : -20001 ≤ s1B a ∧ s1B a ≤ 20001 := by unfold s1B; omega
  have g2 := mbd g1 h2
  have g3 := mbd (A := 20001 * 20001) g2 h3
  exact ⟨g1, ⟨by have := g2.1; unfold s2B; omega, by have := g2.2; unfold s2B; omega⟩, by have := g3.1; unfold s3B s2B; omega, by have := g3.2; unfold s3B s2B; omega⟩
theorem C91 {a : FxB} : SizB 10000 a → PFD Try.prog 91 [bxv a] (vi .i64 (s3B a)) := fun h => by
  obtain ⟨h1, h2, h3⟩ := sz_bd h
  obtain ⟨hx, hy, hz⟩ := h
  simp only [s1B, s2B, s3B] at h1 h2 h3
  refine pi1 fn91 ?_
  (repeat' first | (refine Owe.same ?_; first | refine Owe.o ?_ | refine Owe.mk ?_ ?_) | (refine Fork.same ?_; (first | refine fkD ?_ ?_ | refine fkN ?_ ?_ | refine fkM ?_ ?_) <;> (intro h; try (exfalso; omega))) | refine MvQ.stay ?_)
  refine Sat.rd 3 ?_
  (repeat' first | (refine Owe.same ?_; first | refine Owe.o ?_ | refine Owe.mk ?_ ?_) | (refine Fork.same ?_; (first | refine fkD ?_ ?_ | refine fkN ?_ ?_ | refine fkM ?_ ?_) <;> (intro h; try (exfalso; omega))) | refine MvQ.stay ?_)
  (refine rqK rfl ?_; (repeat' first | exact rfl | (refine qS ?_; constructor)))
theorem C60 {a : FxB} : (SizB 10000 a ∧ s3B a ≤ 20000) → PFD Try.prog 60 [bxv a] (vi .i64 0) := fun ⟨h, hs⟩ => by
  have c1 := C91 h
  have c2 : PFD Try.prog 90 [vbl (decide (s3B a ≤ 20000)), vi .i64 8] (vi .i64 0) := by rw [decide_eq_true hs]; exact C90
  refine pi1 fn60 ?_
  (repeat' first | (refine Owe.same ?_; first | refine Owe.o ?_ | refine Owe.mk ?_ ?_) | (refine Fork.same ?_; (first | refine fkY ?_ | refine fkF ?_ | ((first | refine fkD ?_ ?_ | refine fkN ?_ ?_ | refine fkM ?_ ?_) <;> intro h))) | ((first | refine OpsL.same ?_ | refine OpsDL.same ?_); first | refine oK c1 rfl rfl rfl ?_ | refine oK c2 rfl rfl rfl ?_) | refine MvQ.stay ?_)
  (refine rqK rfl ?_; (repeat' first | exact rfl | (refine qS ?_; constructor)))
def lrgB (a : FxB) : Prop := 20000 < s1B a ∨ 20000 < s2B a ∨ 20000 < s3B a
instance {a : FxB} : Decidable (lrgB a) := by unfold lrgB; exact inferInstance
theorem C18 {a : FxB} : SizB 10000 a → PFD Try.prog 18 [bxv a] (vbl (decide (lrgB a))) := fun h => by
  obtain ⟨h1, h2, h3⟩ := sz_bd h
  obtain ⟨hx, hy, hz⟩ := h
  simp only [s1B, s2B, s3B] at h1 h2 h3
  refine pi1 fn18 ?_
  (repeat' first | (refine Owe.same ?_; first | refine Owe.o ?_ | refine Owe.mk ?_ ?_) | (refine Fork.same ?_; (first | refine fkD ?_ ?_ | refine fkN ?_ ?_ | refine fkM ?_ ?_) <;> (intro h; try (exfalso; omega))) | ((first | refine OpsL.same ?_ | refine OpsDL.same ?_); first | refine pK C56 rfl rfl ?_) | refine MvQ.stay ?_)
  refine Sat.rd 3 ?_
  (repeat' first | (refine Owe.same ?_; first | refine Owe.o ?_ | refine Owe.mk ?_ ?_) | (refine Fork.same ?_; (first | refine fkD ?_ ?_ | refine fkN ?_ ?_ | refine fkM ?_ ?_) <;> (intro h; try (exfalso; omega))) | ((first | refine OpsL.same ?_ | refine OpsDL.same ?_); first | refine pK C56 rfl rfl ?_) | refine MvQ.stay ?_)
  all_goals (refine rqK rfl ?_; (repeat' first | exact rfl | (refine qS ?_; constructor)))
  all_goals first | refine decide_eq_true ?_ | refine decide_eq_false ?_
  all_goals simp only [lrgB, s1B, s2B, s3B]; omega
theorem nr_bd {r : Int × Int} {f : Int} (h : (-10000 ≤ r.1 ∧ r.1 ≤ 10000) ∧ -10000 ≤ r.2 ∧ r.2 ≤ 10000) (hf : -10000 ≤ f ∧ f ≤ 10000) : -20000 ≤ nrR r f ∧ nrR r f ≤ 20000 := by unfold nrR; omega
theorem fr_bd {r : Int × Int} {f : Int} (h : (-10000 ≤ r.1 ∧ r.1 ≤ 10000) ∧ -10000 ≤ r.2 ∧ r.2 ≤ 10000) (hf : -10000 ≤ f ∧ f ≤ 10000) : -20000 ≤ frR r f ∧ frR r f ≤ 20000 := by unfold frR; omega
theorem C96 {a : FxB} {p : FxP} : (SizB 10000 a ∧ SizB 10000 (sgl p)) → PFD Try.prog 96 [bxv a, ptv p] (rgv (sqB a p)) := fun ⟨h, hp⟩ => by
  have p1 := hp.x.1
  have p2 := hp.y.1
  have p3 := hp.z.1
  simp only [sgl] at p1 p2 p3
  have n1 := mbd (nr_bd h.x p1) (nr_bd h.x p1)
  have n2 := mbd (nr_bd h.y p2) (nr_bd h.y p2)
  have n3 := mbd (nr_bd h.z p3) (nr_bd h.z p3)
  have f1 := mbd (fr_bd h.x p1) (fr_bd h.x p1)
  have f2 := mbd (fr_bd h.y p2) (fr_bd h.y p2)
  have f3 := mbd (fr_bd h.z p3) (fr_bd h.z p3)
  obtain ⟨hx, hy, hz⟩ := h
  simp only [nrR, frR] at n1 n2 n3 f1 f2 f3
  refine pi1 fn96 ?_
  (repeat' first | (refine Owe.same ?_; first | refine Owe.o ?_ | refine Owe.mk ?_ ?_) | (refine Fork.same ?_; (first | refine fkD ?_ ?_ | refine fkN ?_ ?_ | refine fkM ?_ ?_) <;> (intro h; try (exfalso; omega))) | refine MvQ.stay ?_)
  refine Sat.rd 3 ?_
  (repeat' first | (refine Owe.same ?_; first | refine Owe.o ?_ | refine Owe.mk ?_ ?_) | (refine Fork.same ?_; (first | refine fkD ?_ ?_ | refine fkN ?_ ?_ | refine fkM ?_ ?_) <;> (intro h; try (exfalso; omega))) | refine MvQ.stay ?_)
  (refine rqK rfl ?_; (repeat' first | exact rfl | (refine qS ?_; constructor)))
end Go.Pw
set_option linter.unusedVariables false
set_option maxHeartbeats 2000000
set_option maxRecDepth 100000
namespace Go.Pw
open Go Go.Proofs
def lc89u : LCode :=
 (zQ [zI 2 (.boxS (zR 0)), zI 4 (.mv (zK 0)), zI 5 (.mv (zK 0))] (zQ [zI 9 (.load true 7 (zR 2)), zI 10 (zC 86 [(zR 9)]), zM 8 10, zI 11 (.ext (zR 8) 0), zI 12 (.ext (zR 8) 1), zI 6 (.alloc [(.int .i64 0), (.int .i64 0),
 (.int .i64 0), (.int .i64 0), (.int .i64 0), (.int .i64 0), (.slice none 0 0), (.int .i64 0), (.int .i64 0), (.int .i64 0), (.int .i64 0), (.int .i64 0), (.int .i64 0)]), zN (.store 13 (zR 6) (zR 11)), zM 7 12] (.seq (zQ
 [zM 13 7, zM 14 1, zI 15 (.len (zR 14)), zI 16 (.bin .leq (zR 15) (zK 8)), zI 17 (zC 90 [(zR 16), (zK 8)]), zI 18 (.lit false 38 1 [(zR 13), (zR 17)]), zI 19 (zC 58 [(zR 18)]), zM 7 19] (zQ [zM 20 7, zI 21 (.bin .neq (zR
 20) (zK 0))] (.cond (zR 21) (zQ [zM 22 7, zI 4 (.mv (zK 0)), zM 5 22] .ret) .skip))) (.seq (.stop (.region [zM 23 1, zI 24 (.mkfn 112 [(zR 6)]), zI 25 (zC 111 [(zR 23), (zR 24)]), zI 26 (.ext (zR 25) 0), zI 27 (.ext (zR
 25) 1), zM 4 26, zM 5 27])) .ret))))
theorem low89u : lowF Try.prog [2] Try.f89 = some (28, lc89u.strip, [.tmp 4, .tmp 5]) := by kernel_rfl
theorem fn89u : FnOk Try.prog 89 28 lc89u [.tmp 4, .tmp 5] := ⟨Try.call89, [2], _, Try.func89, low89u⟩
end Go.Pw
set_option linter.unusedSimpArgs false
set_option linter.unusedVariables false
set_option maxHeartbeats 2000000
namespace Go.Pw
set_option maxRecDepth 2000
open Go Go.Proofs A1 A2 A3 A4
structure NetOk (w : FxB) (B : List FxN) : Prop where
  siz : SizB 10000 w
  zz : 0 ≤ w.2.2.1 ∧ 0 ≤ w.2.2.2
  ord : OrdB w
  n : B.length ≤ 6
  nm : ∀ i, i < B.length → nmP (B.getD i fxn0).1
  ne : ∀ i, i < B.length → ∀ k, k < i → ¬ (B.getD k fxn0).1.data.toList = (B.getD i fxn0).1.data.toList
  at_ : ∀ i, i < B.length → SizB 10000 (sgl (B.getD i fxn0).2)
theorem takeB {B : List FxN} {k : Nat} (h : k ≤ B.length) : VEq (.c (.d (.sl 4 ((k : Int).toNat) fun i => bnD (B.getD i fxn0)))) (.c (bns (B.take k))) :=
  .c _ _ (CEq.sl (by simp; omega) fun i hi => by rw [getD_take' (by omega)])
theorem C125 {w : FxB} {B : List FxN} {k : Nat} : (NetOk w B ∧ k < B.length) → PFD Try.prog 125 [vi .i64 k, bnv (B.getD k fxn0), .c (.rp (nfD w B))] (vi .i64 0) := fun ⟨h, hk⟩ => by
  have hs := h.at_ k hk
  have c1 := C126R (g := 127) (rows := [bnD (B.getD k fxn0)]) (l := B.take k) (fun i hi => C127 (o := (B.take k).getD i fxn0) (b := B.getD k fxn0) (by
    rw [List.length_take] at hi
    rw [getD_take' (by omega)]; exact h.ne k hk i (by omega))) (by rw [List.length_take]; have := h.n; omega)
  have c2 := C128f (g := 129) (l := [(B.getD k fxn0).2.1, (B.getD k fxn0).2.2.1, (B.getD k fxn0).2.2.2]) (fun i hi => C129 (by
    rcases (show i = 0 ∨ i = 1 ∨ i = 2 by simp at hi; omega) with rfl | rfl | rfl
    · exact hs.x.1
    · exact hs.y.1
    · exact hs.z.1)) (by simp)
  have c3 := C131 (h.nm k hk)
  have c6 : ∀ e, PFD Try.prog 90 [vbl true, vi .i64 e] (vi .i64 0) := fun e => C90
  have c8 : PFD Try.prog 58 [.c (ints [0, 0, 0])] (vi .i64 0) := C58 (l := [0, 0, 0]) (by decide)
  have c9 := C97 (p := (B.getD k fxn0).2)
  refine pi1 fn125 ?_
  (repeat' first | (refine Owe.same ?_; first | refine Owe.o ?_ | refine Owe.mk ?_ ?_) | (refine Fork.same ?_; (first | refine fkY ?_ | refine fkF ?_ | ((first | refine fkD ?_ ?_ | refine fkN ?_ ?_ | refine fkM ?_ ?_) <;> intro h))) | ((first | refine OpsL.same ?_ | refine OpsDL.same ?_); first | refine oK c1 rfl rfl rfl ?_) | refine MvQ.stay ?_)
  refine OpsL.as 12 (.c (bns (B.take k))) (takeB (by omega)) ?_
  (repeat' first | (refine Owe.same ?_; first | refine Owe.o ?_ | refine Owe.mk ?_ ?_) | (refine Fork.same ?_; (first | refine fkY ?_ | refine fkF ?_ | ((first | refine fkD ?_ ?_ | refine fkN ?_ ?_ | refine fkM ?_ ?_) <;> intro h))) | ((first | refine OpsL.same ?_ | refine OpsDL.same ?_); first | refine oK c1 rfl rfl rfl ?_ | refine oK c9 rfl rfl rfl ?_) | refine MvQ.stay ?_)
  refine OpsL.frB 0 [7] rfl rfl ?_
  refine OpsL.go ?_
  (repeat' first | (refine Owe.same ?_; first | refine Owe.o ?_ | refine Owe.mk ?_ ?_) | (refine Fork.same ?_; (first | refine fkD ?_ ?_ | refine fkN ?_ ?_ | refine fkM ?_ ?_) <;> intro h) | refine MvQ.stay ?_)
  refine OpsL.as 18 (.c (ints [(B.getD k fxn0).2.1, (B.getD k fxn0).2.2.1, (B.getD k fxn0).2.2.2])) (sl3i (p := (B.getD k fxn0).2)) ?_
  (repeat' first | (refine Owe.same ?_; first | refine Owe.o ?_ | refine Owe.mk ?_ ?_) | (refine Fork.same ?_; (first | refine fkY ?_ | refine fkF ?_ | ((first | refine fkD ?_ ?_ | refine fkN ?_ ?_ | refine fkM ?_ ?_) <;> intro h))) | ((first | refine OpsL.same ?_ | refine OpsDL.same ?_); first | refine oK c2 rfl rfl rfl ?_ | refine oK c3 rfl rfl rfl ?_ | refine oK (c6 _) rfl rfl rfl ?_) | refine MvQ.stay ?_)
  ((first | refine OpsL.same ?_ | refine OpsDL.same ?_); first | refine pK c8 rfl rfl ?_)
  (repeat' first | (refine Owe.same ?_; first | refine Owe.o ?_ | refine Owe.mk ?_ ?_) | (refine Fork.same ?_; (first | refine fkY ?_ | refine fkF ?_ | ((first | refine fkD ?_ ?_ | refine fkN ?_ ?_ | refine fkM ?_ ?_) <;> intro h))) | ((first | refine OpsL.same ?_ | refine OpsDL.same ?_); first | refine oK c8 rfl rfl rfl ?_) | refine MvQ.stay ?_)
  (refine rqK rfl ?_; (repeat' first | exact rfl | (refine qS ?_; constructor)))
theorem C124R {g : FuncId} {rows : List (List D)} {l : List FxN} (hg : ∀ i, i < l.length → PFD Try.prog g (vi .i64 i :: bnv (l.getD i fxn0) :: rows.map fun r => .c (.rp r)) (vi .i64 0)) : l.length ≤ 1000000 → PFD Try.prog 124 [.c (bns l), .c (.fnR g rows)] (.tup [vi .i64 0, vi .i64 0]) := fun hl => by
  refine pi2 fn124 ?_
  (repeat' first | (refine Owe.same ?_; first | refine Owe.o ?_ | refine Owe.mk ?_ ?_) | (refine Fork.same ?_; (first | refine fkD ?_ ?_ | refine fkN ?_ ?_ | refine fkM ?_ ?_) <;> intro h) | refine MvQ.stay ?_)
  refine Sat.lp0 (fun k : Nat => [(11, vi .i64 k), (10, vi .i64 l.length), (9, .c (bns l)), (1, .c (.fnR g rows))]) (fun k => k ≤ l.length) (fun k => l.length - k) 0 (Nat.zero_le _) (by ((first | refine qen ?_ | refine qvs ?_ | refine qeq ?_ | refine qst ?_ | refine qv ?_ | refine qc ?_ | refine qe ?_ | refine qcs ?_ | skip); (repeat' first | exact rfl | (refine qS ?_; constructor)))) ?_
  intro k hk
  refine Fork.dec (fun hlt => ?_) (fun hlt => ?_)
  · have hlt : k < l.length := by omega
    (repeat' first | (refine Owe.same ?_; first | refine Owe.o ?_ | refine Owe.mk ?_ ?_) | (refine Fork.same ?_; (first | refine fkD ?_ ?_ | refine fkN ?_ ?_ | refine fkM ?_ ?_) <;> intro h) | ((first | refine OpsL.same ?_ | refine OpsDL.same ?_); first | refine pR (hg k hlt) rfl rfl ?_) | refine MvQ.stay ?_)
    · rename_i h; exact absurd rfl h
    · exact again0 (k + 1) hlt (by omega) (by ((first | refine qen ?_ | refine qvs ?_ | refine qeq ?_ | refine qst ?_ | refine qv ?_ | refine qc ?_ | refine qe ?_ | refine qcs ?_ | skip); (repeat' first | exact rfl | (refine qS ?_; constructor))))
  · have : k = l.length := by omega
    subst this
    (repeat' first | (refine Owe.same ?_; first | refine Owe.o ?_ | refine Owe.mk ?_ ?_) | (refine Fork.same ?_; (first | refine fkD ?_ ?_ | refine fkN ?_ ?_ | refine fkM ?_ ?_) <;> intro h) | refine MvQ.stay ?_)
    (refine rqK rfl ?_; (repeat' first | exact rfl | (refine qS ?_; constructor)))
theorem C111R {g : FuncId} {rows : List (List D)} {l : List FxR} (hg : ∀ i, i < l.length → PFD Try.prog g (vi .i64 i :: rdv (l.getD i fxr0) :: rows.map fun r => .c (.rp r)) (vi .i64 0)) : l.length ≤ 1000000 → PFD Try.prog 111 [.c (rds l), .c (.fnR g rows)] (.tup [vi .i64 0, vi .i64 0]) := fun hl => by
  refine pi2 fn111 ?_
  (repeat' first | (refine Owe.same ?_; first | refine Owe.o ?_ | refine Owe.mk ?_ ?_) | (refine Fork.same ?_; (first | refine fkD ?_ ?_ | refine fkN ?_ ?_ | refine fkM ?_ ?_) <;> intro h) | refine MvQ.stay ?_)
  refine Sat.lp0 (fun k : Nat => [(11, vi .i64 k), (10, vi .i64 l.length), (9, .c (rds l)), (1, .c (.fnR g rows))]) (fun k => k ≤ l.length) (fun k => l.length - k) 0 (Nat.zero_le _) (by ((first | refine qen ?_ | refine qvs ?_ | refine qeq ?_ | refine qst ?_ | refine qv ?_ | refine qc ?_ | refine qe ?_ | refine qcs ?_ | skip); (repeat' first | exact rfl | (refine qS ?_; constructor)))) ?_
  intro k hk
  refine Fork.dec (fun hlt => ?_) (fun hlt => ?_)
  · have hlt : k < l.length := by omega
    (repeat' first | (refine Owe.same ?_; first | refine Owe.o ?_ | refine Owe.mk ?_ ?_) | (refine Fork.same ?_; (first | refine fkD ?_ ?_ | refine fkN ?_ ?_ | refine fkM ?_ ?_) <;> intro h) | ((first | refine OpsL.same ?_ | refine OpsDL.same ?_); first | refine pR (hg k hlt) rfl rfl ?_) | refine MvQ.stay ?_)
    · rename_i h; exact absurd rfl h
    · exact again0 (k + 1) hlt (by omega) (by ((first | refine qen ?_ | refine qvs ?_ | refine qeq ?_ | refine qst ?_ | refine qv ?_ | refine qc ?_ | refine qe ?_ | refine qcs ?_ | skip); (repeat' first | exact rfl | (refine qS ?_; constructor))))
  · have : k = l.length := by omega
    subst this
    (repeat' first | (refine Owe.same ?_; first | refine Owe.o ?_ | refine Owe.mk ?_ ?_) | (refine Fork.same ?_; (first | refine fkD ?_ ?_ | refine fkN ?_ ?_ | refine fkM ?_ ?_) <;> intro h) | refine MvQ.stay ?_)
    (refine rqK rfl ?_; (repeat' first | exact rfl | (refine qS ?_; constructor)))
theorem C108 {w : FxB} {B : List FxN} : NetOk w B → PFD Try.prog 108 [nfv w B] (.tup [vi .i64 0, vi .i64 0]) := fun h => by
  have h1 := h.zz
  have h2 := h.n
  have c1 := C123 (a := w) (m := 10000) ⟨by decide, h.siz⟩
  have c2 := C109 h.ord
  have c3 : PFD Try.prog 90 [vbl (decide (0 ≤ w.2.2.2)), vi .i64 2] (vi .i64 0) := by rw [decide_eq_true h1.2]; exact C90
  have c4 : PFD Try.prog 90 [vbl (decide ((B.length : Int) ≤ 6)), vi .i64 8] (vi .i64 0) := by rw [decide_eq_true (by omega)]; exact C90
  have c6 : PFD Try.prog 90 [vbl true, vi .i64 9] (vi .i64 0) := C90
  have c8 : PFD Try.prog 58 [.c (ints [0, 0, 0])] (vi .i64 0) := C58 (l := [0, 0, 0]) (by decide)
  have c9 := C124R (g := 125) (rows := [nfD w B]) (l := B) (fun i hi => C125 ⟨h, hi⟩) (by omega)
  refine pi2 fn108 ?_
  (repeat' first | (refine Owe.same ?_; first | refine Owe.o ?_ | refine Owe.mk ?_ ?_) | (refine Fork.same ?_; (first | refine fkY ?_ | refine fkF ?_ | ((first | refine fkD ?_ ?_ | refine fkN ?_ ?_ | refine fkM ?_ ?_) <;> intro h))) | ((first | refine OpsL.same ?_ | refine OpsDL.same ?_); first | refine oK C87 rfl rfl rfl ?_ | refine oK c1 rfl rfl rfl ?_ | refine oK c2 rfl rfl rfl ?_ | refine oK c3 rfl rfl rfl ?_ | refine oK c4 rfl rfl rfl ?_ | refine oK c6 rfl rfl rfl ?_) | refine MvQ.stay ?_)
  ((first | refine OpsL.same ?_ | refine OpsDL.same ?_); first | refine pK c8 rfl rfl ?_)
  (repeat' first | (refine Owe.same ?_; first | refine Owe.o ?_ | refine Owe.mk ?_ ?_) | (refine Fork.same ?_; (first | refine fkY ?_ | refine fkF ?_ | ((first | refine fkD ?_ ?_ | refine fkN ?_ ?_ | refine fkM ?_ ?_) <;> intro h))) | ((first | refine OpsL.same ?_ | refine OpsDL.same ?_); first | refine oK c8 rfl rfl rfl ?_ | refine oK c9 rfl rfl rfl ?_) | refine MvQ.stay ?_)
  (refine rqK rfl ?_; (repeat' first | exact rfl | (refine qS ?_; constructor)))
theorem C86 {w : FxB} {B : List FxN} : NetOk w B → PFD Try.prog 86 [nfv w B] (.tup [ntv w B, vi .i64 0]) := fun h => by
  have c := C108 h
  refine pi2 fn86 ?_
  (repeat' first | (refine Owe.same ?_; first | refine Owe.o ?_ | refine Owe.mk ?_ ?_) | (refine Fork.same ?_; (first | refine fkY ?_ | refine fkF ?_ | ((first | refine fkD ?_ ?_ | refine fkN ?_ ?_ | refine fkM ?_ ?_) <;> intro h))) | ((first | refine OpsL.same ?_ | refine OpsDL.same ?_); first | refine oK c rfl rfl rfl ?_ | refine oK C87 rfl rfl rfl ?_) | refine MvQ.stay ?_)
  (refine rqK rfl ?_; (repeat' first | exact rfl | (refine qS ?_; constructor)))
theorem C88 {w b : FxB} {B : List FxN} : (NetOk w B ∧ OrdB b ∧ HasB' w b) → PFD Try.prog 88 [nfv w B, bxv b] (vi .i64 0) := fun ⟨h, ho, hh⟩ => by
  have c1 := C86 h
  have c2 := C109 ho
  have c3 := C110 hh
  have c6 : ∀ e, PFD Try.prog 90 [vbl true, vi .i64 e] (vi .i64 0) := fun e => C90
  have c8 : PFD Try.prog 58 [.c (ints [0, 0, 0])] (vi .i64 0) := C58 (l := [0, 0, 0]) (by decide)
  refine pi1 fn88 ?_
  (repeat' first | (refine Owe.same ?_; first | refine Owe.o ?_ | refine Owe.mk ?_ ?_) | (refine Fork.same ?_; (first | refine fkY ?_ | refine fkF ?_ | ((first | refine fkD ?_ ?_ | refine fkN ?_ ?_ | refine fkM ?_ ?_) <;> intro h))) | ((first | refine OpsL.same ?_ | refine OpsDL.same ?_); first | refine oK c1 rfl rfl rfl ?_ | refine oK C87 rfl rfl rfl ?_ | refine oK c2 rfl rfl rfl ?_ | refine oK c3 rfl rfl rfl ?_ | refine oK (c6 _) rfl rfl rfl ?_) | refine MvQ.stay ?_)
  ((first | refine OpsL.same ?_ | refine OpsDL.same ?_); first | refine pK c8 rfl rfl ?_)
  (repeat' first | (refine Owe.same ?_; first | refine Owe.o ?_ | refine Owe.mk ?_ ?_) | (refine Fork.same ?_; (first | refine fkY ?_ | refine fkF ?_ | ((first | refine fkD ?_ ?_ | refine fkN ?_ ?_ | refine fkM ?_ ?_) <;> intro h))) | ((first | refine OpsL.same ?_ | refine OpsDL.same ?_); first | refine oK c8 rfl rfl rfl ?_) | refine MvQ.stay ?_)
  (refine rqK rfl ?_; (repeat' first | exact rfl | (refine qS ?_; constructor)))
theorem C57 {w b : FxB} {B : List FxN} : (NetOk w B ∧ OrdB b ∧ HasB' w b) → PFD Try.prog 57 [nfv w B, bxv b] (.tup [ntv w B, bxv b, vi .i64 0]) := fun h => by
  have c1 := C86 h.1
  have c2 := C88 h
  have c8 : PFD Try.prog 58 [.c (ints [0, 0])] (vi .i64 0) := C58 (l := [0, 0]) (by decide)
  refine pi3 fn57 ?_
  (repeat' first | (refine Owe.same ?_; first | refine Owe.o ?_ | refine Owe.mk ?_ ?_) | (refine Fork.same ?_; (first | refine fkY ?_ | refine fkF ?_ | ((first | refine fkD ?_ ?_ | refine fkN ?_ ?_ | refine fkM ?_ ?_) <;> intro h))) | ((first | refine OpsL.same ?_ | refine OpsDL.same ?_); first | refine oK c1 rfl rfl rfl ?_ | refine oK C87 rfl rfl rfl ?_ | refine oK c2 rfl rfl rfl ?_) | refine MvQ.stay ?_)
  ((first | refine OpsL.same ?_ | refine OpsDL.same ?_); first | refine pK c8 rfl rfl ?_)
  (repeat' first | (refine Owe.same ?_; first | refine Owe.o ?_ | refine Owe.mk ?_ ?_) | (refine Fork.same ?_; (first | refine fkY ?_ | refine fkF ?_ | ((first | refine fkD ?_ ?_ | refine fkN ?_ ?_ | refine fkM ?_ ?_) <;> intro h))) | ((first | refine OpsL.same ?_ | refine OpsDL.same ?_); first | refine oK c8 rfl rfl rfl ?_) | refine MvQ.stay ?_)
  (refine rqK rfl ?_; (repeat' first | exact rfl | (refine qS ?_; constructor)))
structure RdOk (n : Nat) (r : FxR) : Prop where
  k : r.1 = 0 ∨ r.1 = 1
  i0 : r.1 = 0 → (0 ≤ r.2.1 ∧ r.2.1 < n) ∧ (0 ≤ r.2.2.1 ∧ r.2.2.1 ≤ 30000) ∧ 0 ≤ r.2.2.2 ∧ r.2.2.2 ≤ 30000
  i1 : r.1 = 1 → (0 ≤ r.2.1 ∧ r.2.1 ≤ 2) ∧ (-30000 ≤ r.2.2.1 ∧ r.2.2.1 ≤ 30000) ∧ -30000 ≤ r.2.2.2 ∧ r.2.2.2 ≤ 30000
  o : r.2.2.1 ≤ r.2.2.2
structure RdsOk (m : Nat) (l : List FxR) : Prop where
  n : l.length ≤ 8
  ok : ∀ i, i < l.length → RdOk m (l.getD i fxr0)
theorem C112 {w : FxB} {B : List FxN} {r : FxR} {k : Nat} : (B.length ≤ 6 ∧ RdOk B.length r) → PFD Try.prog 112 [vi .i64 k, rdv r, .c (.rp (ntD w B))] (vi .i64 0) := fun ⟨hB, h⟩ => by
  obtain ⟨hk, h0, h1, ho⟩ := h
  have c1 := C113 (w := w) (B := B) (i := r.2.1) (by omega)
  have c2 := C93 (n := r.1) (lo := 0) (hi := 1)
  rw [decide_eq_true (by omega)] at c2
  have c6 : ∀ e, PFD Try.prog 90 [vbl true, vi .i64 e] (vi .i64 0) := fun e => C90
  have c7 : PFD Try.prog 90 [vbl (decide (r.2.2.1 ≤ r.2.2.2)), vi .i64 9] (vi .i64 0) := by rw [decide_eq_true ho]; exact C90
  have c8 : PFD Try.prog 58 [.c (ints [0, 0, 0, 0])] (vi .i64 0) := C58 (l := [0, 0, 0, 0]) (by decide)
  rcases hk with hk | hk
  · obtain ⟨g1, g2, g3⟩ := h0 hk
    rw [decide_eq_true (by omega)] at c1
    have c3 := C93 (n := r.2.2.1) (lo := 0) (hi := 30000)
    have c4 := C93 (n := r.2.2.2) (lo := 0) (hi := 30000)
    rw [decide_eq_true g2] at c3
    rw [decide_eq_true g3] at c4
    refine pi1 fn112 ?_
    (repeat' first | (refine Owe.same ?_; first | refine Owe.o ?_ | refine Owe.mk ?_ ?_) | (refine Fork.same ?_; (first | refine fkY ?_ | refine fkF ?_ | ((first | refine fkD ?_ ?_ | refine fkN ?_ ?_ | refine fkM ?_ ?_) <;> (intro h; try (exfalso; omega))))) | ((first | refine OpsL.same ?_ | refine OpsDL.same ?_); first | refine oK c1 rfl rfl rfl ?_ | refine oK c2 rfl rfl rfl ?_ | refine oK c3 rfl rfl rfl ?_ | refine oK c4 rfl rfl rfl ?_ | refine oK (c6 _) rfl rfl rfl ?_ | refine oK c7 rfl rfl rfl ?_) | refine MvQ.stay ?_)
    ((first | refine OpsL.same ?_ | refine OpsDL.same ?_); first | refine pK c8 rfl rfl ?_)
    (repeat' first | (refine Owe.same ?_; first | refine Owe.o ?_ | refine Owe.mk ?_ ?_) | (refine Fork.same ?_; (first | refine fkY ?_ | refine fkF ?_ | ((first | refine fkD ?_ ?_ | refine fkN ?_ ?_ | refine fkM ?_ ?_) <;> intro h))) | ((first | refine OpsL.same ?_ | refine OpsDL.same ?_); first | refine oK c8 rfl rfl rfl ?_) | refine MvQ.stay ?_)
    (refine rqK rfl ?_; (repeat' first | exact rfl | (refine qS ?_; constructor)))
  · obtain ⟨g1, g2, g3⟩ := h1 hk
    have c3 := C93 (n := r.2.2.1) (lo := -30000) (hi := 30000)
    have c4 := C93 (n := r.2.2.2) (lo := -30000) (hi := 30000)
    have c5 := C93 (n := r.2.1) (lo := 0) (hi := 2)
    rw [decide_eq_true g1] at c5
    rw [decide_eq_true g2] at c3
    rw [decide_eq_true g3] at c4
    refine pi1 fn112 ?_
    (repeat' first | (refine Owe.same ?_; first | refine Owe.o ?_ | refine Owe.mk ?_ ?_) | (refine Fork.same ?_; (first | refine fkY ?_ | refine fkF ?_ | ((first | refine fkD ?_ ?_ | refine fkN ?_ ?_ | refine fkM ?_ ?_) <;> (intro h; try (exfalso; omega))))) | ((first | refine OpsL.same ?_ | refine OpsDL.same ?_); first | refine oK c1 rfl rfl rfl ?_ | refine oK c2 rfl rfl rfl ?_ | refine oK c3 rfl rfl rfl ?_ | refine oK c4 rfl rfl rfl ?_ | refine oK c5 rfl rfl rfl ?_ | refine oK (c6 _) rfl rfl rfl ?_ | refine oK c7 rfl rfl rfl ?_) | refine MvQ.stay ?_)
    ((first | refine OpsL.same ?_ | refine OpsDL.same ?_); first | refine pK c8 rfl rfl ?_)
    (repeat' first | (refine Owe.same ?_; first | refine Owe.o ?_ | refine Owe.mk ?_ ?_) | (refine Fork.same ?_; (first | refine fkY ?_ | refine fkF ?_ | ((first | refine fkD ?_ ?_ | refine fkN ?_ ?_ | refine fkM ?_ ?_) <;> intro h))) | ((first | refine OpsL.same ?_ | refine OpsDL.same ?_); first | refine oK c8 rfl rfl rfl ?_) | refine MvQ.stay ?_)
    (refine rqK rfl ?_; (repeat' first | exact rfl | (refine qS ?_; constructor)))
theorem C89 {w : FxB} {B : List FxN} {l : List FxR} : (NetOk w B ∧ RdsOk B.length l) → PFD Try.prog 89 [nfv w B, .c (rds l)] (.tup [vi .i64 0, vi .i64 0]) := fun ⟨h, hl⟩ => by
  have h1 := hl.n
  have h2 := h.n
  have c1 := C86 h
  have c2 : PFD Try.prog 90 [vbl (decide ((l.length : Int) ≤ 8)), vi .i64 8] (vi .i64 0) := by rw [decide_eq_true (by omega)]; exact C90
  have c3 := C111R (g := 112) (rows := [ntD w B]) (l := l) (fun i hi => C112 ⟨h2, hl.ok i hi⟩) (by omega)
  have c8 : PFD Try.prog 58 [.c (ints [0, 0])] (vi .i64 0) := C58 (l := [0, 0]) (by decide)
  refine pi2 fn89u ?_
  (repeat' first | (refine Owe.same ?_; first | refine Owe.o ?_ | refine Owe.mk ?_ ?_) | (refine Fork.same ?_; (first | refine fkY ?_ | refine fkF ?_ | ((first | refine fkD ?_ ?_ | refine fkN ?_ ?_ | refine fkM ?_ ?_) <;> intro h))) | ((first | refine OpsL.same ?_ | refine OpsDL.same ?_); first | refine oK c1 rfl rfl rfl ?_ | refine oK c2 rfl rfl rfl ?_) | refine MvQ.stay ?_)
  ((first | refine OpsL.same ?_ | refine OpsDL.same ?_); first | refine pK c8 rfl rfl ?_)
  (repeat' first | (refine Owe.same ?_; first | refine Owe.o ?_ | refine Owe.mk ?_ ?_) | (refine Fork.same ?_; (first | refine fkY ?_ | refine fkF ?_ | ((first | refine fkD ?_ ?_ | refine fkN ?_ ?_ | refine fkM ?_ ?_) <;> intro h))) | ((first | refine OpsL.same ?_ | refine OpsDL.same ?_); first | refine oK c8 rfl rfl rfl ?_ | refine oK c3 rfl rfl rfl ?_) | refine MvQ.stay ?_)
  refine SatL.frB 0 [6] rfl rfl ?_
  refine SatL.go ?_
  (repeat' first | (refine Owe.same ?_; first | refine Owe.o ?_ | refine Owe.mk ?_ ?_) | (refine Fork.same ?_; (first | refine fkY ?_ | refine fkF ?_ | ((first | refine fkD ?_ ?_ | refine fkN ?_ ?_ | refine fkM ?_ ?_) <;> intro h))) | ((first | refine OpsL.same ?_ | refine OpsDL.same ?_); first | refine oK c3 rfl rfl rfl ?_) | refine MvQ.stay ?_)
  (refine rqK rfl ?_; (repeat' first | exact rfl | (refine qS ?_; constructor)))
theorem C59 {w : FxB} {B : List FxN} {l : List FxR} : (NetOk w B ∧ RdsOk B.length l) → PFD Try.prog 59 [nfv w B, .c (rds l)] (vi .i64 0) := fun h => by
  have c := C89 h
  refine pi1 fn59 ?_
  (repeat' first | (refine Owe.same ?_; first | refine Owe.o ?_ | refine Owe.mk ?_ ?_) | (refine Fork.same ?_; (first | refine fkY ?_ | refine fkF ?_ | ((first | refine fkD ?_ ?_ | refine fkN ?_ ?_ | refine fkM ?_ ?_) <;> intro h))) | ((first | refine OpsL.same ?_ | refine OpsDL.same ?_); first | refine oK c rfl rfl rfl ?_) | refine MvQ.stay ?_)
  (refine rqK rfl ?_; (repeat' first | exact rfl | (refine qS ?_; constructor)))
theorem C67 {w : FxB} {B : List FxN} {l : List FxR} {m : Int} : ((NetOk w B ∧ RdsOk B.length l) ∧ 0 ≤ m ∧ m ≤ l.length) → PFD Try.prog 67 [nfv w B, .agg [rds l, int m]] (vi .i64 0) := fun ⟨h, hm⟩ => by
  have c := C59 h
  have c1 := C93 (n := m) (lo := 0) (hi := l.length)
  rw [decide_eq_true hm] at c1
  have c6 : PFD Try.prog 90 [vbl true, vi .i64 2] (vi .i64 0) := C90
  have c8 : PFD Try.prog 58 [.c (ints [0, 0])] (vi .i64 0) := C58 (l := [0, 0]) (by decide)
  refine pi1 fn67 ?_
  (repeat' first | (refine Owe.same ?_; first | refine Owe.o ?_ | refine Owe.mk ?_ ?_) | (refine Fork.same ?_; (first | refine fkY ?_ | refine fkF ?_ | ((first | refine fkD ?_ ?_ | refine fkN ?_ ?_ | refine fkM ?_ ?_) <;> intro h))) | ((first | refine OpsL.same ?_ | refine OpsDL.same ?_); first | refine oK c rfl rfl rfl ?_ | refine oK c1 rfl rfl rfl ?_ | refine oK c6 rfl rfl rfl ?_) | refine MvQ.stay ?_)
  ((first | refine OpsL.same ?_ | refine OpsDL.same ?_); first | refine pK c8 rfl rfl ?_)
  (repeat' first | (refine Owe.same ?_; first | refine Owe.o ?_ | refine Owe.mk ?_ ?_) | (refine Fork.same ?_; (first | refine fkY ?_ | refine fkF ?_ | ((first | refine fkD ?_ ?_ | refine fkN ?_ ?_ | refine fkM ?_ ?_) <;> intro h))) | ((first | refine OpsL.same ?_ | refine OpsDL.same ?_); first | refine oK c8 rfl rfl rfl ?_) | refine MvQ.stay ?_)
  (refine rqK rfl ?_; (repeat' first | exact rfl | (refine qS ?_; constructor)))
structure BnsOk (B : List FxN) : Prop where
  n : B.length ≤ 6
  at_ : ∀ i, i < B.length → SizB 10000 (sgl (B.getD i fxn0).2)
theorem NetOk.bns {w : FxB} {B : List FxN} (h : NetOk w B) : BnsOk B := ⟨h.n, h.at_⟩
theorem C72 {w a : FxB} {B : List FxN} {r : FxR} : ((BnsOk B ∧ SizB 10000 a) ∧ RdOk B.length r) → PFD Try.prog 72 [ntv w B, bxv a, rdv r] (.tup [rgv (msrB B a r), rgv (prmB r)]) := fun ⟨⟨hB, ha⟩, h⟩ => by
  obtain ⟨k, i, lo, hi⟩ := r
  obtain ⟨hk, h0, h1, ho⟩ := h
  simp only at hk h0 h1 ho
  rcases hk with rfl | rfl
  · obtain ⟨g1, g2, g3⟩ := h0 rfl
    have hs := hB.at_ i.toNat (by omega)
    have c1 := C97 (p := (B.getD i.toNat fxn0).2)
    have c2 := C96 (a := a) (p := (B.getD i.toNat fxn0).2) ⟨ha, hs⟩
    have m1 := mbd (A := 30000) (B := 30000) (a := lo) (b := lo) (by omega) (by omega)
    have m2 := mbd (A := 30000) (B := 30000) (a := hi) (b := hi) (by omega) (by omega)
    have e1 : msrB B a (0, i, lo, hi) = sqB a (B.getD i.toNat fxn0).2 := if_neg (by show ¬ ((0 : Int) = 1); decide)
    have e2 : prmB (0, i, lo, hi) = (lo * lo, hi * hi) := if_neg (by show ¬ ((0 : Int) = 1); decide)
    rw [e1, e2]
    refine pi2 fn72 ?_
    (repeat' first | (refine Owe.same ?_; first | refine Owe.o ?_ | refine Owe.mk ?_ ?_) | (refine Fork.same ?_; (first | refine fkY ?_ | refine fkF ?_ | ((first | refine fkD ?_ ?_ | refine fkN ?_ ?_ | refine fkM ?_ ?_) <;> (intro h; try (exfalso; omega))))) | ((first | refine OpsL.same ?_ | refine OpsDL.same ?_); first | refine oK c1 rfl rfl rfl ?_ | refine oK c2 rfl rfl rfl ?_) | refine MvQ.stay ?_)
    (refine rqK rfl ?_; (repeat' first | exact rfl | (refine qS ?_; constructor)))
  · obtain ⟨g1, g2, g3⟩ := h1 rfl
    have e2 : prmB (1, i, lo, hi) = (lo, hi) := if_pos rfl
    have e1 : msrB B a (1, i, lo, hi) = sideB a i := if_pos rfl
    rw [e1, e2]
    rcases (show i = 0 ∨ i = 1 ∨ i = 2 by omega) with rfl | rfl | rfl
    · rw [show sideB a 0 = a.1 from rfl]
      refine pi2 fn72 ?_
      (repeat' first | (refine Owe.same ?_; first | refine Owe.o ?_ | refine Owe.mk ?_ ?_) | (refine Fork.same ?_; (first | refine fkD ?_ ?_ | refine fkN ?_ ?_ | refine fkM ?_ ?_) <;> (intro h; try (exfalso; omega))) | refine MvQ.stay ?_)
      (refine rqK rfl ?_; (repeat' first | exact rfl | (refine qS ?_; constructor)))
    · rw [show sideB a 1 = a.2.1 from rfl]
      refine pi2 fn72 ?_
      (repeat' first | (refine Owe.same ?_; first | refine Owe.o ?_ | refine Owe.mk ?_ ?_) | (refine Fork.same ?_; (first | refine fkD ?_ ?_ | refine fkN ?_ ?_ | refine fkM ?_ ?_) <;> (intro h; try (exfalso; omega))) | refine MvQ.stay ?_)
      (refine rqK rfl ?_; (repeat' first | exact rfl | (refine qS ?_; constructor)))
    · rw [show sideB a 2 = a.2.2 from rfl]
      refine pi2 fn72 ?_
      (repeat' first | (refine Owe.same ?_; first | refine Owe.o ?_ | refine Owe.mk ?_ ?_) | (refine Fork.same ?_; (first | refine fkD ?_ ?_ | refine fkN ?_ ?_ | refine fkM ?_ ?_) <;> (intro h; try (exfalso; omega))) | refine MvQ.stay ?_)
      (refine rqK rfl ?_; (repeat' first | exact rfl | (refine qS ?_; constructor)))
def wbN (f : Nat → Bool) : Nat → Nat
  | 0 => 0
  | k + 1 => if f k = true then wbN f k ||| 2 ^ k else wbN f k
theorem wbN_lt {f : Nat → Bool} : ∀ k, wbN f k < 2 ^ k
  | 0 => by simp [wbN]
  | k + 1 => by
    have h := wbN_lt (f := f) k
    have h2 : 2 ^ k < 2 ^ (k + 1) := Nat.pow_lt_pow_right (by decide) (Nat.lt_succ_self k)
    rw [wbN]
    split
    · exact Nat.or_lt_two_pow (by omega) h2
    · omega
theorem wbN_bit {f : Nat → Bool} : ∀ k i, (wbN f k).testBit i = (decide (i < k) && f i)
  | 0, i => by simp [wbN]
  | k + 1, i => by
    have h := wbN_bit (f := f) k i
    rw [wbN]
    rcases Nat.lt_trichotomy i k with h1 | h1 | h1
    · have e1 : decide (i < k) = true := decide_eq_true h1
      have e2 : decide (i < k + 1) = true := decide_eq_true (by omega)
      rw [e1, Bool.true_and] at h
      rw [e2, Bool.true_and]
      split
      · rw [Nat.testBit_or, h, Nat.testBit_two_pow_of_ne (by omega), Bool.or_false]
      · exact h
    · subst h1
      have e1 : decide (i < i) = false := decide_eq_false (by omega)
      have e2 : decide (i < i + 1) = true := decide_eq_true (by omega)
      rw [e1, Bool.false_and] at h
      rw [e2, Bool.true_and]
      split
      · rename_i hf
        rw [Nat.testBit_or, h, Nat.testBit_two_pow_self, Bool.false_or, hf]
      · rename_i hf
        rw [h]; simpa using hf
    · have e1 : decide (i < k) = false := decide_eq_false (by omega)
      have e2 : decide (i < k + 1) = false := decide_eq_false (by omega)
      rw [e1, Bool.false_and] at h
      rw [e2, Bool.false_and]
      split
      · rw [Nat.testBit_or, h, Nat.testBit_two_pow_of_ne (by omega), Bool.or_false]
      · exact h
theorem shl_u64 {n : Nat} (h : n ≤ 8) : IntKind.u64.wrap (1 * 2 ^ min (Int.toNat (n : Int)) IntKind.u64.bits) = ((2 ^ n : Nat) : Int) := by
  have : n = 0 ∨ n = 1 ∨ n = 2 ∨ n = 3 ∨ n = 4 ∨ n = 5 ∨ n = 6 ∨ n = 7 ∨ n = 8 := by omega
  rcases this with h | h | h | h | h | h | h | h | h <;> subst h <;> decide
theorem or_u64 {a b : Nat} (ha : a < 2 ^ 62) (hb : b < 2 ^ 62) : IntKind.u64.wrap ((BitVec.ofInt IntKind.u64.bits (a : Int) ||| BitVec.ofInt IntKind.u64.bits (b : Int)).toNat : Nat) = ((a ||| b : Nat) : Int) := by
  have hbits : IntKind.u64.bits = 64 := rfl
  have f1 : ∀ x : Nat, x < 2 ^ 62 → (BitVec.ofInt IntKind.u64.bits (x : Int)).toNat = x := fun x hx => by
    rw [BitVec.toNat_ofInt, hbits]; omega
  rw [BitVec.toNat_or, f1 a ha, f1 b hb, u64_wrap]
  have := Nat.or_lt_two_pow ha hb
  omega
theorem bit_u64 {b i : Nat} (hb : b < 2 ^ 62) (hi : i < 64) : decide (IntKind.u64.wrap ((BitVec.ofInt IntKind.u64.bits ((b : Int).fdiv (2 ^ min (Int.toNat (i : Int)) IntKind.u64.bits)) &&& BitVec.ofInt IntKind.u64.bits 1).toNat : Nat) = 1) = b.testBit i := by
  have hbits : IntKind.u64.bits = 64 := rfl
  have e1 : (b : Int).fdiv (2 ^ min (Int.toNat (i : Int)) IntKind.u64.bits) = ((b / 2 ^ i : Nat) : Int) := by
    rw [hbits, Int.toNat_natCast, Nat.min_eq_left (by omega), Int.fdiv_eq_ediv_of_nonneg _ (Int.pow_nonneg (by decide))]
    norm_cast
  rw [e1, Nat.testBit_eq_decide_div_mod_eq]
  have hlt : b / 2 ^ i < 2 ^ 62 := by
    have := Nat.div_le_self b (2 ^ i)
    omega
  generalize b / 2 ^ i = q at hlt ⊢
  have e2 : (BitVec.ofInt IntKind.u64.bits (q : Int) &&& BitVec.ofInt IntKind.u64.bits 1).toNat = q % 2 := by
    rw [BitVec.toNat_and]
    have f1 : (BitVec.ofInt IntKind.u64.bits (q : Int)).toNat = q := by
      rw [BitVec.toNat_ofInt, hbits]; omega
    have f2 : (BitVec.ofInt IntKind.u64.bits 1).toNat = 1 := rfl
    rw [f1, f2, Nat.and_one_is_mod]
  rw [e2]
  have e3 : IntKind.u64.wrap ((q % 2 : Nat) : Int) = ((q % 2 : Nat) : Int) := by
    rcases (show q % 2 = 0 ∨ q % 2 = 1 by omega) with h | h <;> rw [h] <;> rfl
  rw [e3, Bool.eq_iff_iff, decide_eq_true_eq, decide_eq_true_eq]
  omega
theorem C63 {w : FxB} {B : List FxN} {l : List FxR} {p : FxP} : ((BnsOk B ∧ SizB 10000 (sgl p)) ∧ RdsOk B.length l) → PFD Try.prog 63 [ntv w B, .c (rds l), ptv p] (vi .u64 (wbN (badL B l p) l.length : Nat)) := fun ⟨⟨hB, hp⟩, hl⟩ => by
  have hn := hl.n
  refine pi1 fn63 ?_
  (repeat' first | (refine Owe.same ?_; first | refine Owe.o ?_ | refine Owe.mk ?_ ?_) | (refine Fork.same ?_; (first | refine fkD ?_ ?_ | refine fkN ?_ ?_ | refine fkM ?_ ?_) <;> intro h) | refine MvQ.stay ?_)
  refine Sat.lp0 (fun k : Nat => [(14, vi .i64 k), (13, vi .i64 l.length), (12, .c (rds l)), (7, vi .u64 (wbN (badL B l p) k : Nat)), (5, .c (.rp [dI p.1, dI p.2.1, dI p.2.2])), (3, .c (.rp (ntD w B)))]) (fun k => k ≤ l.length) (fun k => l.length - k) 0 (Nat.zero_le _) (by ((first | refine qen ?_ | refine qvs ?_ | refine qeq ?_ | refine qst ?_ | refine qv ?_ | refine qc ?_ | refine qe ?_ | refine qcs ?_ | skip); (repeat' first | exact rfl | (refine qS ?_; constructor)))) ?_
  intro k hk
  refine Fork.dec (fun hlt => ?_) (fun hlt => ?_)
  · have hlt : k < l.length := by omega
    have c1 := C92 (p := p)
    have c2 := C72 (w := w) (a := sgl p) ⟨⟨hB, hp⟩, hl.ok k hlt⟩
    have hb := wbN_lt (f := badL B l p) k
    have h8 : 2 ^ k ≤ 2 ^ 8 := Nat.pow_le_pow_right (by decide) (by omega)
    have eb : badL B l p k = !decide ((prmB (l.getD k fxr0)).1 ≤ (msrB B (sgl p) (l.getD k fxr0)).1 ∧ (msrB B (sgl p) (l.getD k fxr0)).1 ≤ (prmB (l.getD k fxr0)).2) := rfl
    (repeat' first | (refine Owe.same ?_; first | refine Owe.o ?_ | refine Owe.mk ?_ ?_) | (refine Fork.same ?_; (first | refine fkD ?_ ?_ | refine fkN ?_ ?_ | refine fkM ?_ ?_) <;> (intro h; try (exfalso; omega))) | ((first | refine OpsL.same ?_ | refine OpsDL.same ?_); first | refine pK c1 rfl rfl ?_ | refine pK c2 rfl rfl ?_ | refine pK C93 rfl rfl ?_) | refine MvQ.stay ?_)
    · refine again0 (k + 1) hlt (by omega) ?_
      ((first | refine qen ?_ | refine qvs ?_ | refine qeq ?_ | refine qst ?_ | refine qv ?_ | refine qc ?_ | refine qe ?_ | refine qcs ?_ | skip); (repeat' first | exact rfl | (refine qS ?_; constructor)))
      show IntKind.u64.wrap _ = _
      rw [shl_u64 (by omega), or_u64 (by omega) (by omega), wbN, if_pos]
      rw [eb, decide_eq_false h]; rfl
    · refine again0 (k + 1) hlt (by omega) ?_
      ((first | refine qen ?_ | refine qvs ?_ | refine qeq ?_ | refine qst ?_ | refine qv ?_ | refine qc ?_ | refine qe ?_ | refine qcs ?_ | skip); (repeat' first | exact rfl | (refine qS ?_; constructor)))
      show ((wbN _ k : Nat) : Int) = _
      rw [wbN, if_neg]
      rw [eb, decide_eq_true h]; decide
  · have : k = l.length := by omega
    subst this
    (repeat' first | (refine Owe.same ?_; first | refine Owe.o ?_ | refine Owe.mk ?_ ?_) | (refine Fork.same ?_; (first | refine fkD ?_ ?_ | refine fkN ?_ ?_ | refine fkM ?_ ?_) <;> intro h) | refine MvQ.stay ?_)
    (refine rqK rfl ?_; (repeat' first | exact rfl | (refine qS ?_; constructor)))
theorem C62 {w n : Nat} : (w < 256 ∧ n ≤ 8) → PFD Try.prog 62 [vi .u64 w, vi .i64 n, .c .tru] (.c (ints (fltL w.testBit n))) := fun ⟨hw, hn⟩ => by
  refine pi1 fn62 ?_
  (repeat' first | (refine Owe.same ?_; first | refine Owe.o ?_ | refine Owe.mk ?_ ?_) | (refine Fork.same ?_; (first | refine fkD ?_ ?_ | refine fkN ?_ ?_ | refine fkM ?_ ?_) <;> intro h) | refine MvQ.stay ?_)
  refine Sat.nilS 7 3 1 (fun i => r1 (([] : List Int).getD i 0)) rfl ?_
  refine Sat.lp (fun k : Nat => ⟨[(10, vi .i64 k), (9, vi .i64 n), (2, .c .tru), (0, vi .u64 w), (7, .c (.ms 0 (fltL w.testBit k).length))], [(0, rowv 3 1 r1 0 (fltL w.testBit k))], 1⟩) (fun k => k ≤ n) (fun k => n - k) 0 [0] (Nat.zero_le _) ?_ ?_
  · (refine qis ?_ ?_ <;> (repeat' first | exact rfl | (refine qS ?_; constructor)))
  intro k hk
  have hl := fltL_len w.testBit k
  refine Fork.dec (fun hlt => ?_) (fun hlt => ?_)
  · have hlt : k < n := by omega
    have hb := bit_u64 (b := w) (i := k) (by omega) (by omega)
    (repeat' first | (refine Owe.same ?_; first | refine Owe.o ?_ | refine Owe.mk ?_ ?_) | (refine Fork.same ?_; (first | refine fkD ?_ ?_ | refine fkN ?_ ?_ | refine fkM ?_ ?_) <;> intro h) | refine MvQ.stay ?_)
    · have h := h
      rw [hb] at h
      refine again (k + 1) [1] hlt (by omega) ?_
      rw [fltL_succ, if_pos (by simpa using h)]
      (refine qis ?_ ?_ <;> (repeat' first | exact rfl | (refine qS ?_; constructor)))
      · simp
    · have h := h
      rw [hb] at h
      refine again (k + 1) [0] hlt (by omega) ?_
      rw [fltL_succ, if_neg (by simpa using h)]
      (refine qis ?_ ?_ <;> (repeat' first | exact rfl | (refine qS ?_; constructor)))
  · have : k = n := by omega
    subst this
    (repeat' first | (refine Owe.same ?_; first | refine Owe.o ?_ | refine Owe.mk ?_ ?_) | (refine Fork.same ?_; (first | refine fkD ?_ ?_ | refine fkN ?_ ?_ | refine fkM ?_ ?_) <;> intro h) | refine MvQ.stay ?_)
    refine rqF 0 _ rfl rfl rfl ?_; (repeat' first | exact rfl | (refine qS ?_; constructor))
def pcN (w : Nat) : Nat := (fltL w.testBit 8).length
theorem C116 {w : Nat} : w < 256 → PFD Try.prog 116 [vi .u64 w] (vi .i64 (pcN w : Nat)) := fun h => by
  refine pi1 fn116 ?_
  (repeat' first | (refine Owe.same ?_; first | refine Owe.o ?_ | refine Owe.mk ?_ ?_) | (refine Fork.same ?_; (first | refine fkD ?_ ?_ | refine fkN ?_ ?_ | refine fkM ?_ ?_) <;> intro h) | refine MvQ.stay ?_)
  · unfold R64
    revert w
    decide +kernel
  · (refine rqK rfl ?_; (repeat' first | exact rfl | (refine qS ?_; constructor)))
    revert w
    decide +kernel
theorem C95 {w : Nat} : w < 256 → PFD Try.prog 95 [vi .u64 w] (vi .i64 (pcN w : Nat)) := fun h => by
  have c := C116 h
  refine pi1 fn95 ?_
  (repeat' first | (refine Owe.same ?_; first | refine Owe.o ?_ | refine Owe.mk ?_ ?_) | (refine Fork.same ?_; (first | refine fkY ?_ | refine fkF ?_ | ((first | refine fkD ?_ ?_ | refine fkN ?_ ?_ | refine fkM ?_ ?_) <;> intro h))) | ((first | refine OpsL.same ?_ | refine OpsDL.same ?_); first | refine oK c rfl rfl rfl ?_) | refine MvQ.stay ?_)
  (refine rqK rfl ?_; (repeat' first | exact rfl | (refine qS ?_; constructor)))
theorem pcN_wb {f : Nat → Bool} {n : Nat} (h : n ≤ 8) : pcN (wbN f n) = (fltL f n).length := by
  have e : ∀ m, m ≤ n → fltL (wbN f n).testBit m = fltL f m := fun m => by
    induction m with
    | zero => intro _; rfl
    | succ m ih =>
      intro hm
      rw [fltL_succ, fltL_succ, ih (by omega), wbN_bit, decide_eq_true (by omega), Bool.true_and]
  have e2 : ∀ m, n ≤ m → fltL (wbN f n).testBit m = fltL f n := fun m => by
    induction m with
    | zero => intro hm; rw [show n = 0 by omega]; rfl
    | succ m ih =>
      intro hm
      rcases Nat.lt_or_ge m n with h1 | h1
      · rw [show m + 1 = n by omega]; exact e n (Nat.le_refl n)
      · rw [fltL_succ, ih h1, wbN_bit, decide_eq_false (by omega), Bool.false_and]; simp
  rw [pcN, e2 8 h]
theorem fltL_wb {f : Nat → Bool} {n : Nat} : fltL (wbN f n).testBit n = fltL f n := by
  have e : ∀ m, m ≤ n → fltL (wbN f n).testBit m = fltL f m := fun m => by
    induction m with
    | zero => intro _; rfl
    | succ m ih =>
      intro hm
      rw [fltL_succ, fltL_succ, ih (by omega), wbN_bit, decide_eq_true (by omega), Bool.true_and]
  exact e n (Nat.le_refl n)
abbrev cmpI (a b : Int) : Int := if a < b then -1 else if b < a then 1 else 0
def cmpL : List Int → List Int → Int
  | [], [] => 0
  | [], _ :: _ => -1
  | _ :: _, [] => 1
  | x :: l, y :: m => if cmpI x y = 0 then cmpL l m else cmpI x y
theorem cmpL_drop {l m : List Int} {k : Nat} (h : k < l.length) (h2 : k < m.length) : cmpL (l.drop k) (m.drop k) = if cmpI (l.getD k 0) (m.getD k 0) = 0 then cmpL (l.drop (k + 1)) (m.drop (k + 1)) else cmpI (l.getD k 0) (m.getD k 0) := by
  rw [List.drop_eq_getElem_cons h, List.drop_eq_getElem_cons h2, cmpL, List.getD_eq_getElem?_getD, List.getElem?_eq_getElem h, List.getD_eq_getElem?_getD, List.getElem?_eq_getElem h2]
  rfl
theorem C114 {a : Int} : PFD Try.prog 114 [vi .i64 a] (vbl false) := by
  refine pi1 fn114 ?_
  (repeat' first | (refine Owe.same ?_; first | refine Owe.o ?_ | refine Owe.mk ?_ ?_) | (refine Fork.same ?_; (first | refine fkD ?_ ?_ | refine fkN ?_ ?_ | refine fkM ?_ ?_) <;> intro h) | refine MvQ.stay ?_)
  (refine rqK rfl ?_; (repeat' first | exact rfl | (refine qS ?_; constructor)))
  simp
theorem C94 {a b : Int} : PFD Try.prog 94 [vi .i64 a, vi .i64 b] (vi .i64 (cmpI a b)) := by
  refine pi1 fn94 ?_
  (repeat' first | (refine Owe.same ?_; first | refine Owe.o ?_ | refine Owe.mk ?_ ?_) | (refine Fork.same ?_; (first | refine fkY ?_ | refine fkF ?_ | ((first | refine fkD ?_ ?_ | refine fkN ?_ ?_ | refine fkM ?_ ?_) <;> intro h))) | ((first | refine OpsL.same ?_ | refine OpsDL.same ?_); first | refine oK C114 rfl rfl rfl ?_) | refine MvQ.stay ?_)
  · (refine rqK rfl ?_; (repeat' first | exact rfl | (refine qS ?_; constructor))); rw [cmpI, if_pos h]
  · rename_i h1; (refine rqK rfl ?_; (repeat' first | exact rfl | (refine qS ?_; constructor))); rw [cmpI, if_neg h1, if_pos h]
  · rename_i h1; (refine rqK rfl ?_; (repeat' first | exact rfl | (refine qS ?_; constructor))); rw [cmpI, if_neg h1, if_neg h]
theorem C64 {l m : List Int} : (l.length ≤ 1000000 ∧ m.length ≤ 1000000) → PFD Try.prog 64 [.c (ints l), .c (ints m)] (vi .i64 (cmpL l m)) := fun ⟨hl, hm⟩ => by
  obtain ⟨q, hq⟩ : ∃ q, q = cmpL l m := ⟨_, rfl⟩
  rw [← hq]
  refine pi1 fn64 ?_
  (repeat' first | (refine Owe.same ?_; first | refine Owe.o ?_ | refine Owe.mk ?_ ?_) | (refine Fork.same ?_; (first | refine fkD ?_ ?_ | refine fkN ?_ ?_ | refine fkM ?_ ?_) <;> intro h) | refine MvQ.stay ?_)
  refine Sat.lp0 (fun k : Nat => [(11, vi .i64 k), (10, vi .i64 l.length), (9, .c (ints l)), (0, .c (ints l)), (1, .c (ints m))]) (fun k => k ≤ l.length ∧ k ≤ m.length ∧ q = cmpL (l.drop k) (m.drop k)) (fun k => l.length - k) 0 ⟨Nat.zero_le _, Nat.zero_le _, hq⟩ (by ((first | refine qen ?_ | refine qvs ?_ | refine qeq ?_ | refine qst ?_ | refine qv ?_ | refine qc ?_ | refine qe ?_ | refine qcs ?_ | skip); (repeat' first | exact rfl | (refine qS ?_; constructor)))) ?_
  intro k ⟨h1, h2, h3⟩
  refine Fork.dec (fun hlt => ?_) (fun hlt => ?_)
  · have hlt : k < l.length := by omega
    (repeat' first | (refine Owe.same ?_; first | refine Owe.o ?_ | refine Owe.mk ?_ ?_) | (refine Fork.same ?_; (first | refine fkD ?_ ?_ | refine fkN ?_ ?_ | refine fkM ?_ ?_) <;> intro h) | ((first | refine OpsL.same ?_ | refine OpsDL.same ?_); first | refine pK C94 rfl rfl ?_) | refine MvQ.stay ?_)
    · have h4 : m.length ≤ k := by omega
      rw [List.drop_of_length_le h4, List.drop_eq_getElem_cons hlt, cmpL] at h3
      subst h3; (refine rqK rfl ?_; (repeat' first | exact rfl | (refine qS ?_; constructor)))
    · rename_i hk
      have h : ¬ cmpI (l.getD k 0) (m.getD k 0) = 0 := h
      rw [cmpL_drop hlt (by omega), if_neg h] at h3
      subst h3; (refine rqK rfl ?_; (repeat' first | exact rfl | (refine qS ?_; constructor)))
    · rename_i hk
      have h : cmpI (l.getD k 0) (m.getD k 0) = 0 := h
      rw [cmpL_drop hlt (by omega), if_pos h] at h3
      exact again0 (k + 1) ⟨hlt, by omega, h3⟩ (by omega) (by ((first | refine qen ?_ | refine qvs ?_ | refine qeq ?_ | refine qst ?_ | refine qv ?_ | refine qc ?_ | refine qe ?_ | refine qcs ?_ | skip); (repeat' first | exact rfl | (refine qS ?_; constructor))))
  · rw [List.drop_of_length_le (show l.length ≤ k by omega)] at h3
    (repeat' first | (refine Owe.same ?_; first | refine Owe.o ?_ | refine Owe.mk ?_ ?_) | (refine Fork.same ?_; (first | refine fkD ?_ ?_ | refine fkN ?_ ?_ | refine fkM ?_ ?_) <;> intro h) | refine MvQ.stay ?_)
    · rw [List.drop_eq_getElem_cons (show k < m.length by omega), cmpL] at h3
      subst h3; (refine rqK rfl ?_; (repeat' first | exact rfl | (refine qS ?_; constructor)))
    · rw [List.drop_of_length_le (show m.length ≤ k by omega), cmpL] at h3
      subst h3; (refine rqK rfl ?_; (repeat' first | exact rfl | (refine qS ?_; constructor)))
end Go.Pw
set_option linter.unusedSimpArgs false
set_option linter.unusedVariables false
set_option maxHeartbeats 4000000
namespace Go.Pw
set_option maxRecDepth 2000
open Go Go.Proofs A1 A2 A3 A4
abbrev vtS (w a : FxB) (B : List FxN) (l : List FxR) (m : Int) (s : FxB × Int) : Store := [(0, .box [int 0, int 0, int 0, int 0, int 0, int 0]), (1, .box [int s.1.1.1, int s.1.1.2, int s.1.2.1.1, int s.1.2.1.2, int s.1.2.2.1, int s.1.2.2.2]), (2, .box [int s.2]),
  (3, .lp [(3, .c (.rp (ntD w B))), (5, .c (.rp [rdsD l, dI m])), (6, .c (.bp 0 0)), (8, .c (.bp 1 0)), (9, .c (.bp 2 0)), (14, .c (.fnB 61 (bxD a)))] .ready none (RR Try.prog 57 [15] ra68 rb68))]
abbrev okV (B : List FxN) (l : List FxR) (m : Int) (p : FxP) : Bool := decide (((wrW B l p).length : Int) ≤ m)
theorem C68 {w a : FxB} {B : List FxN} {l : List FxR} {m : Int} : (((BnsOk B ∧ SizB 10000 a) ∧ RdsOk B.length l) ∧ OrdB a) → PFD Try.prog 68 [ntv w B, bxv a, .agg [rds l, int m]] (.tup [bxv ((posB a).foldl (stV (okV B l m)) v0V).1, vi .i64 ((posB a).foldl (stV (okV B l m)) v0V).2]) := fun ⟨⟨⟨hB, ha⟩, hl⟩, ho⟩ => by
  obtain ⟨ok, hok⟩ : ∃ ok, ok = okV B l m := ⟨_, rfl⟩
  rw [← hok]
  obtain ⟨R, hR⟩ : ∃ R, R = (posB a).foldl (stV ok) v0V := ⟨_, rfl⟩
  rw [← hR]
  have hN : R.2 ≤ 8001200060001 := by
    have h1 := List.countP_le_length (p := ok) (l := posB a)
    have h2 := pos_len (a := a) ⟨by have := ha.x; omega, by have := ha.y; omega, by have := ha.z; omega⟩
    rw [hR, vote_n]; omega
  obtain ⟨hx, hy, hz⟩ := ha
  obtain ⟨ox, oy, oz⟩ := ho
  refine pi2 fn68 ?_
  (repeat' first | (refine Owe.same ?_; first | refine Owe.o ?_ | refine Owe.mk ?_ ?_) | (refine Fork.same ?_; (first | refine fkD ?_ ?_ | refine fkN ?_ ?_ | refine fkM ?_ ?_) <;> intro h) | refine MvQ.stay ?_)
  refine Sat.keep [3, 5, 6, 8, 9, 14] ?_
  refine Sat.rfB rfl rfl (CallS.of fn61 rfl ?_)
  (repeat' first | (refine Owe.same ?_; first | refine Owe.o ?_ | refine Owe.mk ?_ ?_) | (refine Fork.same ?_; (first | refine fkD ?_ ?_ | refine fkN ?_ ?_ | refine fkM ?_ ?_) <;> intro h) | refine MvQ.stay ?_)
  refine Sat.lp (fun st : Int × FxB × Int => ⟨[(4, vi .i64 st.1), (2, .c (.rp (bxD a))), (1, .c (.yd 3))], vtS w a B l m st.2, 4⟩)
    (fun st => (a.1.1 ≤ st.1 ∧ st.1 ≤ a.1.2 + 1) ∧ 0 ≤ st.2.2 ∧ R = (xsB a st.1).foldl (stV ok) st.2) (fun st => (a.1.2 + 1 - st.1).toNat) (a.1.1, v0V) [] ⟨⟨Int.le_refl _, by omega⟩, Int.le_refl _, hR⟩ ?_ ?_
  · (refine qis ?_ ?_ <;> (repeat' first | exact rfl | (refine qS ?_; constructor)))
  rintro ⟨x, s⟩ ⟨⟨hx1, hx2⟩, hs, hRx⟩
  simp only at hx1 hx2 hs hRx ⊢
  (repeat' first | (refine Owe.same ?_; first | refine Owe.o ?_ | refine Owe.mk ?_ ?_) | (refine Fork.same ?_; (first | refine fkD ?_ ?_ | refine fkN ?_ ?_ | refine fkM ?_ ?_) <;> intro h) | refine MvQ.stay ?_)
  · have hlx : x ≤ a.1.2 := h
    rw [xs_step hlx] at hRx
    refine Sat.lp (fun st : Int × FxB × Int => ⟨[(5, vi .i64 st.1), (4, vi .i64 x), (2, .c (.rp (bxD a))), (1, .c (.yd 3))], vtS w a B l m st.2, 4⟩)
      (fun st => (a.2.1.1 ≤ st.1 ∧ st.1 ≤ a.2.1.2 + 1) ∧ 0 ≤ st.2.2 ∧ R = (ysB a x st.1 ++ xsB a (x + 1)).foldl (stV ok) st.2) (fun st => (a.2.1.2 + 1 - st.1).toNat) (a.2.1.1, s) [] ⟨⟨Int.le_refl _, by omega⟩, hs, hRx⟩ ?_ ?_
    · (refine qis ?_ ?_ <;> (repeat' first | exact rfl | (refine qS ?_; constructor)))
    clear hRx hs
    rintro ⟨y, s⟩ ⟨⟨hy1, hy2⟩, hs, hRy⟩
    simp only at hy1 hy2 hs hRy ⊢
    (repeat' first | (refine Owe.same ?_; first | refine Owe.o ?_ | refine Owe.mk ?_ ?_) | (refine Fork.same ?_; (first | refine fkD ?_ ?_ | refine fkN ?_ ?_ | refine fkM ?_ ?_) <;> intro h) | refine MvQ.stay ?_)
    · have hly : y ≤ a.2.1.2 := h
      rw [ys_step hly] at hRy
      refine Sat.lp (fun st : Int × FxB × Int => ⟨[(6, vi .i64 st.1), (5, vi .i64 y), (4, vi .i64 x), (2, .c (.rp (bxD a))), (1, .c (.yd 3))], vtS w a B l m st.2, 4⟩)
        (fun st => (a.2.2.1 ≤ st.1 ∧ st.1 ≤ a.2.2.2 + 1) ∧ 0 ≤ st.2.2 ∧ R = (zsB a x y st.1 ++ ysB a x (y + 1) ++ xsB a (x + 1)).foldl (stV ok) st.2) (fun st => (a.2.2.2 + 1 - st.1).toNat) (a.2.2.1, s) [] ⟨⟨Int.le_refl _, by omega⟩, hs, hRy⟩ ?_ ?_
      · (refine qis ?_ ?_ <;> (repeat' first | exact rfl | (refine qS ?_; constructor)))
      clear hRy hs
      rintro ⟨z, s⟩ ⟨⟨hz1, hz2⟩, hs, hRz⟩
      simp only at hz1 hz2 hs hRz ⊢
      (repeat' first | (refine Owe.same ?_; first | refine Owe.o ?_ | refine Owe.mk ?_ ?_) | (refine Fork.same ?_; (first | refine fkD ?_ ?_ | refine fkN ?_ ?_ | refine fkM ?_ ?_) <;> intro h) | refine MvQ.stay ?_)
      · have hlz : z ≤ a.2.2.2 := h
        rw [zs_step hlz, List.cons_append, List.cons_append, List.foldl_cons] at hRz
        have c63 := C63 (w := w) (B := B) (l := l) (p := (x, y, z)) ⟨⟨hB, ⟨by simp only [sgl]; omega, by simp only [sgl]; omega, by simp only [sgl]; omega⟩⟩, hl⟩
        have hln := hl.n
        have hb8 : wbN (badL B l (x, y, z)) l.length < 256 := by
          have h1 := wbN_lt (f := badL B l (x, y, z)) l.length
          have h2 : 2 ^ l.length ≤ 2 ^ 8 := Nat.pow_le_pow_right (by decide) hln
          omega
        have c95 := C95 hb8
        have epc : pcN (wbN (badL B l (x, y, z)) l.length) = (wrW B l (x, y, z)).length := pcN_wb hln
        rw [epc] at c95
        refine Ops.yd rfl rfl rfl rfl rfl ?_
        (repeat' first | (refine Owe.same ?_; first | refine Owe.o ?_ | refine Owe.mk ?_ ?_) | (refine Fork.same ?_; (first | refine fkD ?_ ?_ | refine fkN ?_ ?_ | refine fkM ?_ ?_) <;> intro h) | refine MvQ.stay ?_)
        refine And.intro rfl (Exists.intro _ (And.intro rfl ?_))
        (repeat' first | (refine Owe.same ?_; first | refine Owe.o ?_ | refine Owe.mk ?_ ?_) | (refine Fork.same ?_; (first | refine fkD ?_ ?_ | refine fkN ?_ ?_ | refine fkM ?_ ?_) <;> (intro h; try (exfalso; omega))) | ((first | refine OpsL.same ?_ | refine OpsDL.same ?_); first | refine pK c63 rfl rfl ?_ | refine pK c95 rfl rfl ?_) | refine MvQ.stay ?_)
        · have hno : ok (x, y, z) = false := by rw [hok]; exact decide_eq_false (by omega)
          rw [stV, if_neg (by rw [hno]; decide)] at hRz
          refine Exists.intro _ (Exists.intro _ (Exists.intro _ (And.intro rfl ?_)))
          (repeat' first | (refine Owe.same ?_; first | refine Owe.o ?_ | refine Owe.mk ?_ ?_) | (refine Fork.same ?_; (first | refine fkD ?_ ?_ | refine fkN ?_ ?_ | refine fkM ?_ ?_) <;> intro h) | refine MvQ.stay ?_)
          refine again (z + 1, s) [] ⟨⟨by simp only; omega, by simp only; omega⟩, hs, hRz⟩ (by simp only; omega) ?_
          (refine qis ?_ ?_ <;> (repeat' first | exact rfl | (refine qS ?_; constructor)))
        · have hyes : ok (x, y, z) = true := by rw [hok]; exact decide_eq_true (by omega)
          rw [stV, if_pos hyes] at hRz
          have hle : s.2 + 1 ≤ R.2 := by rw [hRz]; exact vote_le
          refine Sat.rd 3 ?_
          (repeat' first | (refine Owe.same ?_; first | refine Owe.o ?_ | refine Owe.mk ?_ ?_) | (refine Fork.same ?_; (first | refine fkD ?_ ?_ | refine fkN ?_ ?_ | refine fkM ?_ ?_) <;> (intro h; try (exfalso; omega))) | refine MvQ.stay ?_)
          · have h0 : s.2 = 0 := by assumption
            rw [if_pos h0] at hRz
            refine Exists.intro _ (Exists.intro _ (Exists.intro _ (And.intro rfl ?_)))
            (repeat' first | (refine Owe.same ?_; first | refine Owe.o ?_ | refine Owe.mk ?_ ?_) | (refine Fork.same ?_; (first | refine fkD ?_ ?_ | refine fkN ?_ ?_ | refine fkM ?_ ?_) <;> intro h) | refine MvQ.stay ?_)
            refine again (z + 1, sgl (x, y, z), s.2 + 1) [] ⟨⟨by simp only; omega, by simp only; omega⟩, by simp only; omega, hRz⟩ (by simp only; omega) ?_
            (refine qis ?_ ?_ <;> (repeat' first | exact rfl | (refine qS ?_; constructor)))
            all_goals simp [sgl]
          · have h0 : ¬ s.2 = 0 := by assumption
            rw [if_neg h0] at hRz
            refine Exists.intro _ (Exists.intro _ (Exists.intro _ (And.intro rfl ?_)))
            (repeat' first | (refine Owe.same ?_; first | refine Owe.o ?_ | refine Owe.mk ?_ ?_) | (refine Fork.same ?_; (first | refine fkD ?_ ?_ | refine fkN ?_ ?_ | refine fkM ?_ ?_) <;> intro h) | refine MvQ.stay ?_)
            refine again (z + 1, ((min s.1.1.1 x, max s.1.1.2 x), (min s.1.2.1.1 y, max s.1.2.1.2 y), (min s.1.2.2.1 z, max s.1.2.2.2 z)), s.2 + 1) [] ⟨⟨by simp only; omega, by simp only; omega⟩, by simp only; omega, hRz⟩ (by simp only; omega) ?_
            (refine qis ?_ ?_ <;> (repeat' first | exact rfl | (refine qS ?_; constructor)))
      · rw [zs_end h, List.nil_append] at hRz
        refine again (y + 1, s) [] ⟨⟨by simp only; omega, by simp only; omega⟩, hs, hRz⟩ (by simp only; omega) ?_
        (refine qis ?_ ?_ <;> (repeat' first | exact rfl | (refine qS ?_; constructor)))
    · rw [ys_end h, List.nil_append] at hRy
      refine again (x + 1, s) [] ⟨⟨by simp only; omega, by simp only; omega⟩, hs, hRy⟩ (by simp only; omega) ?_
      (refine qis ?_ ?_ <;> (repeat' first | exact rfl | (refine qS ?_; constructor)))
  · rw [xs_end h, List.foldl_nil] at hRx
    rw [hRx]
    (repeat' first | (refine Owe.same ?_; first | refine Owe.o ?_ | refine Owe.mk ?_ ?_) | (refine Fork.same ?_; (first | refine fkD ?_ ?_ | refine fkN ?_ ?_ | refine fkM ?_ ?_) <;> intro h) | refine MvQ.stay ?_)
    (refine rqK rfl ?_; (repeat' first | exact rfl | (refine qS ?_; constructor)))
structure FxOk (w b : FxB) (B : List FxN) : Prop where
  net : NetOk w B
  ord : OrdB b
  has : HasB' w b
  sz : s3B b ≤ 20000
theorem FxOk.siz {w b : FxB} {B : List FxN} (h : FxOk w b B) : SizB 10000 b := by
  obtain ⟨x, y, z⟩ := h.has
  obtain ⟨ox, oy, oz⟩ := h.ord
  obtain ⟨sx, sy, sz⟩ := h.net.siz
  exact ⟨by omega, by omega, by omega⟩
abbrev vtR (B : List FxN) (b : FxB) (l : List FxR) (m : Int) : FxB × Int := (posB b).foldl (stV (okV B l m)) v0V
theorem C25 {w b : FxB} {B : List FxN} {l : List FxR} {m : Int} : (FxOk w b B ∧ RdsOk B.length l ∧ 0 ≤ m ∧ m ≤ l.length) → PFD Try.prog 25 [nfv w B, bxv b, .agg [rds l, int m]]
    (if (vtR B b l m).2 = 0 then .tup [bxv fxb0, vi .i64 0, vi .i64 12] else .tup [bxv (vtR B b l m).1, vi .i64 (vtR B b l m).2, vi .i64 0]) := fun ⟨h, hl, hm⟩ => by
  have c1 := C57 (w := w) (b := b) ⟨h.net, h.ord, h.has⟩
  have c2 := C67 (m := m) ⟨⟨h.net, hl⟩, hm⟩
  have c3 := C60 ⟨h.siz, h.sz⟩
  have c4 := C68 (w := w) (m := m) ⟨⟨⟨h.net.bns, h.siz⟩, hl⟩, h.ord⟩
  have c8 : PFD Try.prog 58 [.c (ints [0, 0])] (vi .i64 0) := C58 (l := [0, 0]) (by decide)
  have c9 := C69 (a := (vtR B b l m).1)
  obtain ⟨R, hR⟩ : ∃ R, R = vtR B b l m := ⟨_, rfl⟩
  rw [← hR] at c9 ⊢
  rw [show (posB b).foldl (stV (okV B l m)) v0V = R from hR.symm] at c4
  split
  · rename_i h0
    refine pi3 fn25 ?_
    (repeat' first | (refine Owe.same ?_; first | refine Owe.o ?_ | refine Owe.mk ?_ ?_) | (refine Fork.same ?_; (first | refine fkY ?_ | refine fkF ?_ | ((first | refine fkD ?_ ?_ | refine fkN ?_ ?_ | refine fkM ?_ ?_) <;> intro h))) | ((first | refine OpsL.same ?_ | refine OpsDL.same ?_); first | refine oK c1 rfl rfl rfl ?_ | refine oK c2 rfl rfl rfl ?_) | refine MvQ.stay ?_)
    ((first | refine OpsL.same ?_ | refine OpsDL.same ?_); first | refine pK c8 rfl rfl ?_)
    (repeat' first | (refine Owe.same ?_; first | refine Owe.o ?_ | refine Owe.mk ?_ ?_) | (refine Fork.same ?_; (first | refine fkY ?_ | refine fkF ?_ | ((first | refine fkD ?_ ?_ | refine fkN ?_ ?_ | refine fkM ?_ ?_) <;> intro h))) | ((first | refine OpsL.same ?_ | refine OpsDL.same ?_); first | refine oK c8 rfl rfl rfl ?_ | refine oK c3 rfl rfl rfl ?_ | refine oK c4 rfl rfl rfl ?_) | refine MvQ.stay ?_)
    (refine rqK rfl ?_; (repeat' first | exact rfl | (refine qS ?_; constructor)))
  · rename_i h0
    refine pi3 fn25 ?_
    (repeat' first | (refine Owe.same ?_; first | refine Owe.o ?_ | refine Owe.mk ?_ ?_) | (refine Fork.same ?_; (first | refine fkY ?_ | refine fkF ?_ | ((first | refine fkD ?_ ?_ | refine fkN ?_ ?_ | refine fkM ?_ ?_) <;> intro h))) | ((first | refine OpsL.same ?_ | refine OpsDL.same ?_); first | refine oK c1 rfl rfl rfl ?_ | refine oK c2 rfl rfl rfl ?_) | refine MvQ.stay ?_)
    ((first | refine OpsL.same ?_ | refine OpsDL.same ?_); first | refine pK c8 rfl rfl ?_)
    (repeat' first | (refine Owe.same ?_; first | refine Owe.o ?_ | refine Owe.mk ?_ ?_) | (refine Fork.same ?_; (first | refine fkY ?_ | refine fkF ?_ | ((first | refine fkD ?_ ?_ | refine fkN ?_ ?_ | refine fkM ?_ ?_) <;> intro h))) | ((first | refine OpsL.same ?_ | refine OpsDL.same ?_); first | refine oK c8 rfl rfl rfl ?_ | refine oK c3 rfl rfl rfl ?_ | refine oK c4 rfl rfl rfl ?_ | refine oK c9 rfl rfl rfl ?_) | refine MvQ.stay ?_)
    (refine rqK rfl ?_; (repeat' first | exact rfl | (refine qS ?_; constructor)))
theorem C24 {w b : FxB} {B : List FxN} {l : List FxR} : (FxOk w b B ∧ RdsOk B.length l) → PFD Try.prog 24 [nfv w B, bxv b, .c (rds l)]
    (if (vtR B b l 0).2 = 0 then .tup [bxv fxb0, vi .i64 0, vi .i64 12] else .tup [bxv (vtR B b l 0).1, vi .i64 (vtR B b l 0).2, vi .i64 0]) := fun ⟨h, hl⟩ => by
  have c := C25 (m := 0) ⟨h, hl, Int.le_refl _, by omega⟩
  obtain ⟨R, hR⟩ : ∃ R, R = vtR B b l 0 := ⟨_, rfl⟩
  rw [← hR] at c ⊢
  split
  · rename_i h0
    rw [if_pos h0] at c
    refine pi3 fn24 ?_
    (repeat' first | (refine Owe.same ?_; first | refine Owe.o ?_ | refine Owe.mk ?_ ?_) | (refine Fork.same ?_; (first | refine fkY ?_ | refine fkF ?_ | ((first | refine fkD ?_ ?_ | refine fkN ?_ ?_ | refine fkM ?_ ?_) <;> intro h))) | ((first | refine OpsL.same ?_ | refine OpsDL.same ?_); first | refine oK c rfl rfl rfl ?_) | refine MvQ.stay ?_)
    (refine rqK rfl ?_; (repeat' first | exact rfl | (refine qS ?_; constructor)))
  · rename_i h0
    rw [if_neg h0] at c
    refine pi3 fn24 ?_
    (repeat' first | (refine Owe.same ?_; first | refine Owe.o ?_ | refine Owe.mk ?_ ?_) | (refine Fork.same ?_; (first | refine fkY ?_ | refine fkF ?_ | ((first | refine fkD ?_ ?_ | refine fkN ?_ ?_ | refine fkM ?_ ?_) <;> intro h))) | ((first | refine OpsL.same ?_ | refine OpsDL.same ?_); first | refine oK c rfl rfl rfl ?_) | refine MvQ.stay ?_)
    (refine rqK rfl ?_; (repeat' first | exact rfl | (refine qS ?_; constructor)))
abbrev wrS (w b : FxB) (B : List FxN) (l : List FxR) (s : FxW) : Store := [(0, .box [int 0, int 0, int 0]), (1, .box [int w.1.1, int w.1.2, int w.2.1.1, int w.2.1.2, int w.2.2.1, int w.2.2.2, bns B, int w.1.1, int w.1.2, int w.2.1.1, int w.2.1.2, int w.2.2.1, int w.2.2.2]),
  (3, .box [ints s.best]), (4, .box [int s.wit.1, int s.wit.2.1, int s.wit.2.2]), (5, .box [.d (.v (.bool s.found))]),
  (6, .lp [(5, .c (.rp [rdsD l])), (7, .c (.bp 0 0)), (9, .c (.bp 1 0)), (12, .c (.bp 3 0)), (13, .c (.bp 4 0)), (14, .c (.bp 5 0)), (41, .c (.fnB 61 (bxD b)))] .ready none (RR Try.prog 77 [42] ra19 rb19))]
abbrev wrR (B : List FxN) (b : FxB) (l : List FxR) : FxW := (posB b).foldl (stW cmpL (wrW B l)) w0W
theorem C19 {w b : FxB} {B : List FxN} {l : List FxR} : (FxOk w b B ∧ RdsOk B.length l) → PFD Try.prog 19 [nfv w B, bxv b, .c (rds l)] (.tup [.c (ints (wrR B b l).best), ptv (wrR B b l).wit, vi .i64 0]) := fun ⟨h, hl⟩ => by
  have c1 := C57 (w := w) (b := b) ⟨h.net, h.ord, h.has⟩
  have c2 := C59 (w := w) ⟨h.net, hl⟩
  have c3 := C60 ⟨h.siz, h.sz⟩
  have c8 : PFD Try.prog 58 [.c (ints [0, 0])] (vi .i64 0) := C58 (l := [0, 0]) (by decide)
  have hB := h.net.bns
  have hsz := h.siz
  obtain ⟨R, hR⟩ : ∃ R, R = wrR B b l := ⟨_, rfl⟩
  rw [← hR]
  obtain ⟨hx, hy, hz⟩ := hsz
  obtain ⟨ox, oy, oz⟩ := h.ord
  refine pi3 fn19 ?_
  (repeat' first | (refine Owe.same ?_; first | refine Owe.o ?_ | refine Owe.mk ?_ ?_) | (refine Fork.same ?_; (first | refine fkY ?_ | refine fkF ?_ | ((first | refine fkD ?_ ?_ | refine fkN ?_ ?_ | refine fkM ?_ ?_) <;> intro h))) | ((first | refine OpsL.same ?_ | refine OpsDL.same ?_); first | refine oK c1 rfl rfl rfl ?_ | refine oK c2 rfl rfl rfl ?_) | refine MvQ.stay ?_)
  ((first | refine OpsL.same ?_ | refine OpsDL.same ?_); first | refine pK c8 rfl rfl ?_)
  (repeat' first | (refine Owe.same ?_; first | refine Owe.o ?_ | refine Owe.mk ?_ ?_) | (refine Fork.same ?_; (first | refine fkY ?_ | refine fkF ?_ | ((first | refine fkD ?_ ?_ | refine fkN ?_ ?_ | refine fkM ?_ ?_) <;> intro h))) | ((first | refine OpsL.same ?_ | refine OpsDL.same ?_); first | refine oK c8 rfl rfl rfl ?_ | refine oK c3 rfl rfl rfl ?_) | refine MvQ.stay ?_)
  refine Sat.keep [5, 7, 9, 12, 13, 14, 41] ?_
  refine Sat.rfB rfl rfl (CallS.of fn61 rfl ?_)
  (repeat' first | (refine Owe.same ?_; first | refine Owe.o ?_ | refine Owe.mk ?_ ?_) | (refine Fork.same ?_; (first | refine fkD ?_ ?_ | refine fkN ?_ ?_ | refine fkM ?_ ?_) <;> intro h) | refine MvQ.stay ?_)
  refine Sat.lp (fun st : Int × FxW => ⟨[(4, vi .i64 st.1), (2, .c (.rp (bxD b))), (1, .c (.yd 6))], wrS w b B l st.2, 7⟩)
    (fun st => (b.1.1 ≤ st.1 ∧ st.1 ≤ b.1.2 + 1) ∧ st.2.best.length ≤ 8 ∧ R = (xsB b st.1).foldl (stW cmpL (wrW B l)) st.2) (fun st => (b.1.2 + 1 - st.1).toNat) (b.1.1, w0W) [] ⟨⟨Int.le_refl _, by omega⟩, Nat.zero_le _, hR⟩ ?_ ?_
  · (refine qis ?_ ?_ <;> (repeat' first | exact rfl | (refine qS ?_; constructor)))
  rintro ⟨x, s⟩ ⟨⟨hx1, hx2⟩, hs, hRx⟩
  simp only at hx1 hx2 hs hRx ⊢
  (repeat' first | (refine Owe.same ?_; first | refine Owe.o ?_ | refine Owe.mk ?_ ?_) | (refine Fork.same ?_; (first | refine fkD ?_ ?_ | refine fkN ?_ ?_ | refine fkM ?_ ?_) <;> intro h) | refine MvQ.stay ?_)
  · have hlx : x ≤ b.1.2 := by assumption
    rw [xs_step hlx] at hRx
    refine Sat.lp (fun st : Int × FxW => ⟨[(5, vi .i64 st.1), (4, vi .i64 x), (2, .c (.rp (bxD b))), (1, .c (.yd 6))], wrS w b B l st.2, 7⟩)
      (fun st => (b.2.1.1 ≤ st.1 ∧ st.1 ≤ b.2.1.2 + 1) ∧ st.2.best.length ≤ 8 ∧ R = (ysB b x st.1 ++ xsB b (x + 1)).foldl (stW cmpL (wrW B l)) st.2) (fun st => (b.2.1.2 + 1 - st.1).toNat) (b.2.1.1, s) [] ⟨⟨Int.le_refl _, by omega⟩, hs, hRx⟩ ?_ ?_
    · (refine qis ?_ ?_ <;> (repeat' first | exact rfl | (refine qS ?_; constructor)))
    clear hRx hs
    rintro ⟨y, s⟩ ⟨⟨hy1, hy2⟩, hs, hRy⟩
    simp only at hy1 hy2 hs hRy ⊢
    (repeat' first | (refine Owe.same ?_; first | refine Owe.o ?_ | refine Owe.mk ?_ ?_) | (refine Fork.same ?_; (first | refine fkD ?_ ?_ | refine fkN ?_ ?_ | refine fkM ?_ ?_) <;> intro h) | refine MvQ.stay ?_)
    · have hly : y ≤ b.2.1.2 := by assumption
      rw [ys_step hly] at hRy
      refine Sat.lp (fun st : Int × FxW => ⟨[(6, vi .i64 st.1), (5, vi .i64 y), (4, vi .i64 x), (2, .c (.rp (bxD b))), (1, .c (.yd 6))], wrS w b B l st.2, 7⟩)
        (fun st => (b.2.2.1 ≤ st.1 ∧ st.1 ≤ b.2.2.2 + 1) ∧ st.2.best.length ≤ 8 ∧ R = (zsB b x y st.1 ++ ysB b x (y + 1) ++ xsB b (x + 1)).foldl (stW cmpL (wrW B l)) st.2) (fun st => (b.2.2.2 + 1 - st.1).toNat) (b.2.2.1, s) [] ⟨⟨Int.le_refl _, by omega⟩, hs, hRy⟩ ?_ ?_
      · (refine qis ?_ ?_ <;> (repeat' first | exact rfl | (refine qS ?_; constructor)))
      clear hRy hs
      rintro ⟨z, s⟩ ⟨⟨hz1, hz2⟩, hs, hRz⟩
      simp only at hz1 hz2 hs hRz ⊢
      (repeat' first | (refine Owe.same ?_; first | refine Owe.o ?_ | refine Owe.mk ?_ ?_) | (refine Fork.same ?_; (first | refine fkD ?_ ?_ | refine fkN ?_ ?_ | refine fkM ?_ ?_) <;> intro h) | refine MvQ.stay ?_)
      · have hlz : z ≤ b.2.2.2 := by assumption
        rw [zs_step hlz, List.cons_append, List.cons_append, List.foldl_cons] at hRz
        have c63 := C63 (w := w) (B := B) (l := l) (p := (x, y, z)) ⟨⟨hB, ⟨by simp only [sgl]; omega, by simp only [sgl]; omega, by simp only [sgl]; omega⟩⟩, hl⟩
        have hln := hl.n
        have hb8 : wbN (badL B l (x, y, z)) l.length < 256 := by
          have h1 := wbN_lt (f := badL B l (x, y, z)) l.length
          have h2 : 2 ^ l.length ≤ 2 ^ 8 := Nat.pow_le_pow_right (by decide) hln
          omega
        have c62 := C62 (n := l.length) ⟨hb8, hln⟩
        rw [fltL_wb] at c62
        have c62 : PFD Try.prog 62 [vi .u64 (wbN (badL B l (x, y, z)) l.length : Nat), vi .i64 l.length, .c .tru] (.c (ints (wrW B l (x, y, z)))) := c62
        have hset : (wrW B l (x, y, z)).length ≤ 8 := Nat.le_trans (fltL_len _ _) hln
        obtain ⟨best, wit, found⟩ := s
        simp only at hs hRz ⊢
        have c64 := C64 (l := wrW B l (x, y, z)) (m := best) ⟨by omega, by omega⟩
        cases found with
        | false =>
          rw [stW, if_pos (.inl rfl)] at hRz
          refine Ops.yd rfl rfl rfl rfl rfl ?_
          (repeat' first | (refine Owe.same ?_; first | refine Owe.o ?_ | refine Owe.mk ?_ ?_) | (refine Fork.same ?_; (first | refine fkD ?_ ?_ | refine fkN ?_ ?_ | refine fkM ?_ ?_) <;> intro h) | refine MvQ.stay ?_)
          refine And.intro rfl (Exists.intro _ (And.intro rfl ?_))
          (repeat' first | (refine Owe.same ?_; first | refine Owe.o ?_ | refine Owe.mk ?_ ?_) | (refine Fork.same ?_; (first | refine fkD ?_ ?_ | refine fkN ?_ ?_ | refine fkM ?_ ?_) <;> (intro h; try (exfalso; omega))) | ((first | refine OpsL.same ?_ | refine OpsDL.same ?_); first | refine pK c63 rfl rfl ?_ | refine pK c62 rfl rfl ?_) | refine MvQ.stay ?_)
          all_goals first | (exact absurd (‹(!false) = false›) (by decide)) | skip
          refine Exists.intro _ (Exists.intro _ (Exists.intro _ (And.intro rfl ?_)))
          (repeat' first | (refine Owe.same ?_; first | refine Owe.o ?_ | refine Owe.mk ?_ ?_) | (refine Fork.same ?_; (first | refine fkD ?_ ?_ | refine fkN ?_ ?_ | refine fkM ?_ ?_) <;> intro h) | refine MvQ.stay ?_)
          refine again (z + 1, ⟨wrW B l (x, y, z), (x, y, z), true⟩) [] ⟨⟨by simp only; omega, by simp only; omega⟩, hset, hRz⟩ (by simp only; omega) ?_
          (refine qis ?_ ?_ <;> (repeat' first | exact rfl | (refine qS ?_; constructor)))
        | true =>
          by_cases hc : (wrW B l (x, y, z)).length < best.length ∨ ((wrW B l (x, y, z)).length = best.length ∧ cmpL (wrW B l (x, y, z)) best < 0)
          · rw [stW, if_pos (.inr hc)] at hRz
            refine Ops.yd rfl rfl rfl rfl rfl ?_
            (repeat' first | (refine Owe.same ?_; first | refine Owe.o ?_ | refine Owe.mk ?_ ?_) | (refine Fork.same ?_; (first | refine fkD ?_ ?_ | refine fkN ?_ ?_ | refine fkM ?_ ?_) <;> intro h) | refine MvQ.stay ?_)
            refine And.intro rfl (Exists.intro _ (And.intro rfl ?_))
            (repeat' first | (refine Owe.same ?_; first | refine Owe.o ?_ | refine Owe.mk ?_ ?_) | (refine Fork.same ?_; (first | refine fkD ?_ ?_ | refine fkN ?_ ?_ | refine fkM ?_ ?_) <;> (intro h; try (exfalso; omega))) | ((first | refine OpsL.same ?_ | refine OpsDL.same ?_); first | refine pK c63 rfl rfl ?_ | refine pK c62 rfl rfl ?_ | refine pK c64 rfl rfl ?_) | refine MvQ.stay ?_)
            all_goals first | (exact absurd (‹(!true) = true›) (by decide)) | (exfalso; simp only at *; omega) | skip
            all_goals refine Exists.intro _ (Exists.intro _ (Exists.intro _ (And.intro rfl ?_)))
            all_goals (repeat' first | (refine Owe.same ?_; first | refine Owe.o ?_ | refine Owe.mk ?_ ?_) | (refine Fork.same ?_; (first | refine fkD ?_ ?_ | refine fkN ?_ ?_ | refine fkM ?_ ?_) <;> intro h) | refine MvQ.stay ?_)
            all_goals refine again (z + 1, ⟨wrW B l (x, y, z), (x, y, z), true⟩) [] ⟨⟨by simp only; omega, by simp only; omega⟩, hset, hRz⟩ (by simp only; omega) ?_
            all_goals (refine qis ?_ ?_ <;> (repeat' first | exact rfl | (refine qS ?_; constructor)))
          · rw [stW, if_neg (fun hh => hh.elim (fun h => by cases h) hc)] at hRz
            refine Ops.yd rfl rfl rfl rfl rfl ?_
            (repeat' first | (refine Owe.same ?_; first | refine Owe.o ?_ | refine Owe.mk ?_ ?_) | (refine Fork.same ?_; (first | refine fkD ?_ ?_ | refine fkN ?_ ?_ | refine fkM ?_ ?_) <;> intro h) | refine MvQ.stay ?_)
            refine And.intro rfl (Exists.intro _ (And.intro rfl ?_))
            (repeat' first | (refine Owe.same ?_; first | refine Owe.o ?_ | refine Owe.mk ?_ ?_) | (refine Fork.same ?_; (first | refine fkD ?_ ?_ | refine fkN ?_ ?_ | refine fkM ?_ ?_) <;> (intro h; try (exfalso; omega))) | ((first | refine OpsL.same ?_ | refine OpsDL.same ?_); first | refine pK c63 rfl rfl ?_ | refine pK c62 rfl rfl ?_ | refine pK c64 rfl rfl ?_) | refine MvQ.stay ?_)
            all_goals first | (exact absurd (‹(!true) = true›) (by decide)) | (exfalso; simp only at *; omega) | skip
            all_goals refine Exists.intro _ (Exists.intro _ (Exists.intro _ (And.intro rfl ?_)))
            all_goals (repeat' first | (refine Owe.same ?_; first | refine Owe.o ?_ | refine Owe.mk ?_ ?_) | (refine Fork.same ?_; (first | refine fkD ?_ ?_ | refine fkN ?_ ?_ | refine fkM ?_ ?_) <;> intro h) | refine MvQ.stay ?_)
            all_goals refine again (z + 1, ⟨best, wit, true⟩) [] ⟨⟨by simp only; omega, by simp only; omega⟩, hs, hRz⟩ (by simp only; omega) ?_
            all_goals (refine qis ?_ ?_ <;> (repeat' first | exact rfl | (refine qS ?_; constructor)))
      · rw [zs_end (by assumption), List.nil_append] at hRz
        refine again (y + 1, s) [] ⟨⟨by simp only; omega, by simp only; omega⟩, hs, hRz⟩ (by simp only; omega) ?_
        (refine qis ?_ ?_ <;> (repeat' first | exact rfl | (refine qS ?_; constructor)))
    · rw [ys_end (by assumption), List.nil_append] at hRy
      refine again (x + 1, s) [] ⟨⟨by simp only; omega, by simp only; omega⟩, hs, hRy⟩ (by simp only; omega) ?_
      (refine qis ?_ ?_ <;> (repeat' first | exact rfl | (refine qS ?_; constructor)))
  · rw [xs_end (by assumption), List.foldl_nil] at hRx
    rw [hRx]
    (repeat' first | (refine Owe.same ?_; first | refine Owe.o ?_ | refine Owe.mk ?_ ?_) | (refine Fork.same ?_; (first | refine fkD ?_ ?_ | refine fkN ?_ ?_ | refine fkM ?_ ?_) <;> intro h) | ((first | refine OpsL.same ?_ | refine OpsDL.same ?_); first | refine pK C65 rfl rfl ?_) | refine MvQ.stay ?_)
    (refine rqK rfl ?_; (repeat' first | exact rfl | (refine qS ?_; constructor)))
abbrev anL (B : List FxN) (b : FxB) (l : List FxR) (k : Nat) : List Int := accL (fun i => ansB B b 2 0 1 (l.getD i fxr0)) k
theorem C27 {w b : FxB} {B : List FxN} {l : List FxR} : (FxOk w b B ∧ RdsOk B.length l) → PFD Try.prog 27 [nfv w B, bxv b, .c (rds l)] (.tup [.c (ints (anL B b l l.length)), vi .i64 0]) := fun ⟨h, hl⟩ => by
  have c1 := C57 (w := w) (b := b) ⟨h.net, h.ord, h.has⟩
  have c2 := C59 (w := w) ⟨h.net, hl⟩
  have c8 : PFD Try.prog 58 [.c (ints [0, 0])] (vi .i64 0) := C58 (l := [0, 0]) (by decide)
  have hn := hl.n
  refine pi2 fn27 ?_
  (repeat' first | (refine Owe.same ?_; first | refine Owe.o ?_ | refine Owe.mk ?_ ?_) | (refine Fork.same ?_; (first | refine fkY ?_ | refine fkF ?_ | ((first | refine fkD ?_ ?_ | refine fkN ?_ ?_ | refine fkM ?_ ?_) <;> intro h))) | ((first | refine OpsL.same ?_ | refine OpsDL.same ?_); first | refine oK c1 rfl rfl rfl ?_ | refine oK c2 rfl rfl rfl ?_) | refine MvQ.stay ?_)
  ((first | refine OpsL.same ?_ | refine OpsDL.same ?_); first | refine pK c8 rfl rfl ?_)
  (repeat' first | (refine Owe.same ?_; first | refine Owe.o ?_ | refine Owe.mk ?_ ?_) | (refine Fork.same ?_; (first | refine fkY ?_ | refine fkF ?_ | ((first | refine fkD ?_ ?_ | refine fkN ?_ ?_ | refine fkM ?_ ?_) <;> intro h))) | ((first | refine OpsL.same ?_ | refine OpsDL.same ?_); first | refine oK c8 rfl rfl rfl ?_) | refine MvQ.stay ?_)
  refine Sat.nilS 11 3 1 (fun i => r1 (([] : List Int).getD i 0)) rfl ?_
  refine Sat.lp (fun k : Nat => ⟨[(34, vi .i64 k), (33, vi .i64 l.length), (32, .c (rds l)), (8, .c (.bp 0 0)), (9, .c (.bp 1 0)), (11, .c (.ms 2 (anL B b l k).length))], [(0, .box [int w.1.1, int w.1.2, int w.2.1.1, int w.2.1.2, int w.2.2.1, int w.2.2.2, bns B, int w.1.1, int w.1.2, int w.2.1.1, int w.2.1.2, int w.2.2.1, int w.2.2.2]), (1, .box [int b.1.1, int b.1.2, int b.2.1.1, int b.2.1.2, int b.2.2.1, int b.2.2.2]), (2, rowv 3 1 r1 0 (anL B b l k))], 3⟩)
    (fun k => k ≤ l.length) (fun k => l.length - k) 0 [0, 1, 2] (Nat.zero_le _) ?_ ?_
  · (refine qis ?_ ?_ <;> (repeat' first | exact rfl | (refine qS ?_; constructor)))
  intro k hk
  have hal : (anL B b l k).length = k := accL_len _ _
  refine Fork.dec (fun hlt => ?_) (fun hlt => ?_)
  · have hlt : k < l.length := by omega
    have c72 := C72 (w := w) (a := b) ⟨⟨h.net.bns, h.siz⟩, hl.ok k hlt⟩
    have ea : ansB B b 2 0 1 (l.getD k fxr0) = if (prmB (l.getD k fxr0)).1 ≤ (msrB B b (l.getD k fxr0)).1 ∧ (msrB B b (l.getD k fxr0)).2 ≤ (prmB (l.getD k fxr0)).2 then 2 else if (msrB B b (l.getD k fxr0)).2 < (prmB (l.getD k fxr0)).1 ∨ (prmB (l.getD k fxr0)).2 < (msrB B b (l.getD k fxr0)).1 then 0 else 1 := rfl
    obtain ⟨M, hM⟩ : ∃ M, M = msrB B b (l.getD k fxr0) := ⟨_, rfl⟩
    obtain ⟨P, hP⟩ : ∃ P, P = prmB (l.getD k fxr0) := ⟨_, rfl⟩
    rw [← hM, ← hP] at c72 ea
    (repeat' first | (refine Owe.same ?_; first | refine Owe.o ?_ | refine Owe.mk ?_ ?_) | (refine Fork.same ?_; (first | refine fkD ?_ ?_ | refine fkN ?_ ?_ | refine fkM ?_ ?_) <;> (intro h; try (exfalso; omega))) | ((first | refine OpsL.same ?_ | refine OpsDL.same ?_); first | refine pK c72 rfl rfl ?_) | refine MvQ.stay ?_)
    all_goals first
      | (have e2 : ansB B b 2 0 1 (l.getD k fxr0) = 2 := by rw [ea, if_pos (by omega)]
         refine again (k + 1) [0, 1, 6] hlt (by omega) ?_
         rw [show anL B b l (k + 1) = anL B b l k ++ [ansB B b 2 0 1 (l.getD k fxr0)] from accL_succ _ _, e2]
         (refine qis ?_ ?_ <;> (repeat' first | exact rfl | (refine qS ?_; constructor)))
         · simp)
      | (have e2 : ansB B b 2 0 1 (l.getD k fxr0) = 0 := by rw [ea, if_neg (by omega), if_pos (by omega)]
         refine again (k + 1) [0, 1, 6] hlt (by omega) ?_
         rw [show anL B b l (k + 1) = anL B b l k ++ [ansB B b 2 0 1 (l.getD k fxr0)] from accL_succ _ _, e2]
         (refine qis ?_ ?_ <;> (repeat' first | exact rfl | (refine qS ?_; constructor)))
         · simp)
      | (have e2 : ansB B b 2 0 1 (l.getD k fxr0) = 1 := by rw [ea, if_neg (by omega), if_neg (by omega)]
         refine again (k + 1) [0, 1, 6] hlt (by omega) ?_
         rw [show anL B b l (k + 1) = anL B b l k ++ [ansB B b 2 0 1 (l.getD k fxr0)] from accL_succ _ _, e2]
         (refine qis ?_ ?_ <;> (repeat' first | exact rfl | (refine qS ?_; constructor)))
         · simp)
  · have : k = l.length := by omega
    subst this
    (repeat' first | (refine Owe.same ?_; first | refine Owe.o ?_ | refine Owe.mk ?_ ?_) | (refine Fork.same ?_; (first | refine fkD ?_ ?_ | refine fkN ?_ ?_ | refine fkM ?_ ?_) <;> intro h) | refine MvQ.stay ?_)
    refine rqF 0 _ rfl rfl rfl ?_; (repeat' first | exact rfl | (refine qS ?_; constructor))
def eachN (f : Nat → Int) : Nat → Nat → Int × Int
  | _, 0 => (0, 0)
  | k, m + 1 => if f k = 0 then eachN f (k + 1) m else (k, f k)
theorem eachN_from {f : Nat → Int} {n : Nat} : ∀ {k : Nat}, k ≤ n → (∀ i, i < k → f i = 0) → eachN f 0 n = eachN f k (n - k)
  | 0, _, _ => rfl
  | k + 1, hk, h => by
    rw [eachN_from (k := k) (by omega) fun i hi => h i (by omega), show n - k = (n - (k + 1)) + 1 by omega, eachN, if_pos (h k (by omega))]
theorem eachN_e {f : Nat → Int} {k n : Nat} (hk : k < n) (h : ∀ i, i < k → f i = 0) (hx : ¬ f k = 0) : eachN f 0 n = ((k : Int), f k) := by
  rw [eachN_from (Nat.le_of_lt hk) h, show n - k = (n - k - 1) + 1 by omega, eachN, if_neg hx]
theorem eachN_z {f : Nat → Int} {n : Nat} (h : ∀ i, i < n → f i = 0) : eachN f 0 n = (0, 0) := by
  rw [eachN_from (Nat.le_refl n) h, Nat.sub_self]; rfl
theorem eachN_ok {f : Nat → Int} {n : Nat} : (eachN f 0 n).2 = 0 ↔ ∀ i, i < n → f i = 0 := by
  have : ∀ m k, (eachN f k m).2 = 0 ↔ ∀ i, k ≤ i → i < k + m → f i = 0 := fun m => by
    induction m with
    | zero => intro k; exact ⟨fun _ i h1 h2 => by omega, fun _ => rfl⟩
    | succ m ih =>
      intro k
      rw [eachN]
      split
      · rename_i h; rw [ih]
        refine ⟨fun hh i h1 h2 => ?_, fun hh i h1 h2 => hh i (by omega) (by omega)⟩
        rcases Nat.eq_or_lt_of_le h1 with rfl | h3
        · exact h
        · exact hh i h3 (by omega)
      · rename_i h; exact ⟨fun hh => absurd hh h, fun hh => absurd (hh k (Nat.le_refl _) (by omega)) h⟩
  rw [this]
  exact ⟨fun h i hi => h i (Nat.zero_le _) (by omega), fun h i _ hi => h i (by omega)⟩
abbrev SizP (p : FxP) : Prop := (-10000 ≤ p.1 ∧ p.1 ≤ 10000) ∧ (-10000 ≤ p.2.1 ∧ p.2.1 ≤ 10000) ∧ -10000 ≤ p.2.2 ∧ p.2.2 ≤ 10000
abbrev rngW (w : FxB) : Prop := ((-10000 ≤ w.1.1 ∧ w.1.1 ≤ 10000) ∧ -10000 ≤ w.1.2 ∧ w.1.2 ≤ 10000) ∧ ((-10000 ≤ w.2.1.1 ∧ w.2.1.1 ≤ 10000) ∧ -10000 ≤ w.2.1.2 ∧ w.2.1.2 ≤ 10000) ∧ (0 ≤ w.2.2.1 ∧ w.2.2.1 ≤ 10000) ∧ 0 ≤ w.2.2.2 ∧ w.2.2.2 ≤ 10000
abbrev eqN (B : List FxN) (i k : Nat) : Prop := (B.getD k fxn0).1.data.toList = (B.getD i fxn0).1.data.toList
open Classical in
noncomputable def bnE (B : List FxN) (i : Nat) : Int := if nmP (B.getD i fxn0).1 then (if ∃ k, k < i ∧ eqN B i k then 5 else if SizP (B.getD i fxn0).2 then 0 else 2) else 4
noncomputable def netE (w : FxB) (B : List FxN) : Int × Int := if ¬ rngW w then (0, 2) else if empB w then (0, 9) else if 6 < B.length then (0, 8) else eachN (bnE B) 0 B.length
theorem C85 {w : FxB} {B : List FxN} : (B.length ≤ 1000000 ∧ ∀ i, i < B.length → (B.getD i fxn0).1.size ≤ 9223372036854775807) → PFD Try.prog 85 [nfv w B] (.tup [vi .i64 (netE w B).1, vi .i64 (netE w B).2]) := fun ⟨hl, hsz⟩ => by
  obtain ⟨R, hR⟩ : ∃ R, R = netE w B := ⟨_, rfl⟩
  rw [← hR]
  have c54 := C54 (a := w)
  by_cases hr : rngW w
  · have hr' := hr
    simp only [rngW] at hr'
    rw [netE, if_neg (fun h => h hr)] at hR
    by_cases he : empB w
    · rw [if_pos he] at hR
      rw [decide_eq_true he] at c54
      subst hR
      refine pi2 fn85 ?_
      (repeat' first | (refine Owe.same ?_; first | refine Owe.o ?_ | refine Owe.mk ?_ ?_) | (refine Fork.same ?_; (first | refine fkD ?_ ?_ | refine fkN ?_ ?_ | refine fkM ?_ ?_) <;> (intro h; try (exfalso; omega))) | ((first | refine OpsL.same ?_ | refine OpsDL.same ?_); first | refine pK C56 rfl rfl ?_ | refine pK C6 rfl rfl ?_) | refine MvQ.stay ?_)
      refine Sat.rd 3 ?_
      (repeat' first | (refine Owe.same ?_; first | refine Owe.o ?_ | refine Owe.mk ?_ ?_) | (refine Fork.same ?_; (first | refine fkY ?_ | refine fkF ?_ | ((first | refine fkD ?_ ?_ | refine fkN ?_ ?_ | refine fkM ?_ ?_) <;> (intro h; try (exfalso; omega))))) | ((first | refine OpsL.same ?_ | refine OpsDL.same ?_); first | refine oK C56 rfl rfl rfl ?_ | refine oK C6 rfl rfl rfl ?_ | refine oK c54 rfl rfl rfl ?_) | refine MvQ.stay ?_)
      (refine rqK rfl ?_; (repeat' first | exact rfl | (refine qS ?_; constructor)))
    · rw [if_neg he] at hR
      rw [decide_eq_false he] at c54
      by_cases hn : 6 < B.length
      · rw [if_pos hn] at hR
        subst hR
        refine pi2 fn85 ?_
        (repeat' first | (refine Owe.same ?_; first | refine Owe.o ?_ | refine Owe.mk ?_ ?_) | (refine Fork.same ?_; (first | refine fkD ?_ ?_ | refine fkN ?_ ?_ | refine fkM ?_ ?_) <;> (intro h; try (exfalso; omega))) | ((first | refine OpsL.same ?_ | refine OpsDL.same ?_); first | refine pK C56 rfl rfl ?_ | refine pK C6 rfl rfl ?_) | refine MvQ.stay ?_)
        refine Sat.rd 3 ?_
        (repeat' first | (refine Owe.same ?_; first | refine Owe.o ?_ | refine Owe.mk ?_ ?_) | (refine Fork.same ?_; (first | refine fkY ?_ | refine fkF ?_ | ((first | refine fkD ?_ ?_ | refine fkN ?_ ?_ | refine fkM ?_ ?_) <;> (intro h; try (exfalso; omega))))) | ((first | refine OpsL.same ?_ | refine OpsDL.same ?_); first | refine oK C56 rfl rfl rfl ?_ | refine oK C6 rfl rfl rfl ?_ | refine oK c54 rfl rfl rfl ?_) | refine MvQ.stay ?_)
        (refine rqK rfl ?_; (repeat' first | exact rfl | (refine qS ?_; constructor)))
      · rw [if_neg hn] at hR
        refine pi2 fn85 ?_
        (repeat' first | (refine Owe.same ?_; first | refine Owe.o ?_ | refine Owe.mk ?_ ?_) | (refine Fork.same ?_; (first | refine fkD ?_ ?_ | refine fkN ?_ ?_ | refine fkM ?_ ?_) <;> (intro h; try (exfalso; omega))) | ((first | refine OpsL.same ?_ | refine OpsDL.same ?_); first | refine pK C56 rfl rfl ?_ | refine pK C6 rfl rfl ?_) | refine MvQ.stay ?_)
        refine Sat.rd 3 ?_
        (repeat' first | (refine Owe.same ?_; first | refine Owe.o ?_ | refine Owe.mk ?_ ?_) | (refine Fork.same ?_; (first | refine fkY ?_ | refine fkF ?_ | ((first | refine fkD ?_ ?_ | refine fkN ?_ ?_ | refine fkM ?_ ?_) <;> (intro h; try (exfalso; omega))))) | ((first | refine OpsL.same ?_ | refine OpsDL.same ?_); first | refine oK C56 rfl rfl rfl ?_ | refine oK C6 rfl rfl rfl ?_ | refine oK c54 rfl rfl rfl ?_) | refine MvQ.stay ?_)
        refine Sat.lp0 (fun k : Nat => [(7, vi .i64 k), (1, .c (.rp (nfD w B)))]) (fun k => k ≤ B.length ∧ ∀ i, i < k → bnE B i = 0) (fun k => B.length - k) 0 ⟨Nat.zero_le _, fun i hi => by omega⟩ (by ((first | refine qen ?_ | refine qvs ?_ | refine qeq ?_ | refine qst ?_ | refine qv ?_ | refine qc ?_ | refine qe ?_ | refine qcs ?_ | skip); (repeat' first | exact rfl | (refine qS ?_; constructor)))) ?_
        rintro i ⟨hi, hall⟩
        refine Fork.dec (fun hlt => ?_) (fun hlt => ?_)
        · have hlt : i < B.length := by omega
          have c107 := C107 (hsz i hlt)
          by_cases hnm : nmP (B.getD i fxn0).1
          · rw [decide_eq_true hnm] at c107
            (repeat' first | (refine Owe.same ?_; first | refine Owe.o ?_ | refine Owe.mk ?_ ?_) | (refine Fork.same ?_; (first | refine fkY ?_ | refine fkF ?_ | ((first | refine fkD ?_ ?_ | refine fkN ?_ ?_ | refine fkM ?_ ?_) <;> (intro h; try (exfalso; omega))))) | ((first | refine OpsL.same ?_ | refine OpsDL.same ?_); first | refine oK c107 rfl rfl rfl ?_) | refine MvQ.stay ?_)
            refine Sat.lp0 (fun k : Nat => [(8, vi .i64 k), (7, vi .i64 i), (1, .c (.rp (nfD w B)))]) (fun k => k ≤ i ∧ ∀ j, j < k → ¬ eqN B i j) (fun k => i - k) 0 ⟨Nat.zero_le _, fun j hj => by omega⟩ (by ((first | refine qen ?_ | refine qvs ?_ | refine qeq ?_ | refine qst ?_ | refine qv ?_ | refine qc ?_ | refine qe ?_ | refine qcs ?_ | skip); (repeat' first | exact rfl | (refine qS ?_; constructor)))) ?_
            rintro k ⟨hk, hne⟩
            refine Fork.dec (fun hlk => ?_) (fun hlk => ?_)
            · have hlk : k < i := by omega
              by_cases heq : eqN B i k
              · have e5 : bnE B i = 5 := by rw [bnE, if_pos hnm, if_pos ⟨k, hlk, heq⟩]
                have eR : R = ((i : Int), 5) := by rw [hR, eachN_e hlt hall (by rw [e5]; decide), e5]
                rw [eR]
                (repeat' first | (refine Owe.same ?_; first | refine Owe.o ?_ | refine Owe.mk ?_ ?_) | (refine Fork.same ?_; (first | refine fkD ?_ ?_ | refine fkN ?_ ?_ | refine fkM ?_ ?_) <;> (intro h; try (exfalso; omega))) | refine MvQ.stay ?_)
                · (refine rqK rfl ?_; (repeat' first | exact rfl | (refine qS ?_; constructor)))
                · exact absurd heq (by assumption)
              · (repeat' first | (refine Owe.same ?_; first | refine Owe.o ?_ | refine Owe.mk ?_ ?_) | (refine Fork.same ?_; (first | refine fkD ?_ ?_ | refine fkN ?_ ?_ | refine fkM ?_ ?_) <;> (intro h; try (exfalso; omega))) | refine MvQ.stay ?_)
                · exact absurd (by assumption) heq
                · exact again0 (k + 1) ⟨hlk, succ_all hne heq⟩ (by omega) (by ((first | refine qen ?_ | refine qvs ?_ | refine qeq ?_ | refine qst ?_ | refine qv ?_ | refine qc ?_ | refine qe ?_ | refine qcs ?_ | skip); (repeat' first | exact rfl | (refine qS ?_; constructor))))
            · have : k = i := by omega
              subst this
              have hne : ¬ ∃ j, j < k ∧ eqN B k j := fun ⟨j, h1, h2⟩ => hne j h1 h2
              have c66 := C66 (p := (B.getD k fxn0).2)
              have e1 : bnE B k = if SizP (B.getD k fxn0).2 then 0 else 2 := by rw [bnE, if_pos hnm, if_neg hne]
              by_cases hs : SizP (B.getD k fxn0).2
              · rw [if_pos hs] at e1
                simp only [SizP] at hs
                (repeat' first | (refine Owe.same ?_; first | refine Owe.o ?_ | refine Owe.mk ?_ ?_) | (refine Fork.same ?_; (first | refine fkD ?_ ?_ | refine fkN ?_ ?_ | refine fkM ?_ ?_) <;> (intro h; try (exfalso; omega))) | ((first | refine OpsL.same ?_ | refine OpsDL.same ?_); first | refine pK c66 rfl rfl ?_) | refine MvQ.stay ?_)
                refine Sat.rd 3 ?_
                (repeat' first | (refine Owe.same ?_; first | refine Owe.o ?_ | refine Owe.mk ?_ ?_) | (refine Fork.same ?_; (first | refine fkD ?_ ?_ | refine fkN ?_ ?_ | refine fkM ?_ ?_) <;> (intro h; try (exfalso; omega))) | ((first | refine OpsL.same ?_ | refine OpsDL.same ?_); first | refine pK C6 rfl rfl ?_) | refine MvQ.stay ?_)
                exact again0 (k + 1) ⟨hlt, succ_all hall e1⟩ (by omega) (by ((first | refine qen ?_ | refine qvs ?_ | refine qeq ?_ | refine qst ?_ | refine qv ?_ | refine qc ?_ | refine qe ?_ | refine qcs ?_ | skip); (repeat' first | exact rfl | (refine qS ?_; constructor))))
              · rw [if_neg hs] at e1
                simp only [SizP] at hs
                have eR : R = ((k : Int), 2) := by rw [hR, eachN_e hlt hall (by rw [e1]; decide), e1]
                rw [eR]
                (repeat' first | (refine Owe.same ?_; first | refine Owe.o ?_ | refine Owe.mk ?_ ?_) | (refine Fork.same ?_; (first | refine fkD ?_ ?_ | refine fkN ?_ ?_ | refine fkM ?_ ?_) <;> (intro h; try (exfalso; omega))) | ((first | refine OpsL.same ?_ | refine OpsDL.same ?_); first | refine pK c66 rfl rfl ?_) | refine MvQ.stay ?_)
                refine Sat.rd 3 ?_
                (repeat' first | (refine Owe.same ?_; first | refine Owe.o ?_ | refine Owe.mk ?_ ?_) | (refine Fork.same ?_; (first | refine fkD ?_ ?_ | refine fkN ?_ ?_ | refine fkM ?_ ?_) <;> (intro h; try (exfalso; omega))) | ((first | refine OpsL.same ?_ | refine OpsDL.same ?_); first | refine pK C6 rfl rfl ?_) | refine MvQ.stay ?_)
                all_goals (refine rqK rfl ?_; (repeat' first | exact rfl | (refine qS ?_; constructor)))
          · have e4 : bnE B i = 4 := by rw [bnE, if_neg hnm]
            have eR : R = ((i : Int), 4) := by rw [hR, eachN_e hlt hall (by rw [e4]; decide), e4]
            rw [decide_eq_false hnm] at c107
            rw [eR]
            (repeat' first | (refine Owe.same ?_; first | refine Owe.o ?_ | refine Owe.mk ?_ ?_) | (refine Fork.same ?_; (first | refine fkY ?_ | refine fkF ?_ | ((first | refine fkD ?_ ?_ | refine fkN ?_ ?_ | refine fkM ?_ ?_) <;> (intro h; try (exfalso; omega))))) | ((first | refine OpsL.same ?_ | refine OpsDL.same ?_); first | refine oK c107 rfl rfl rfl ?_) | refine MvQ.stay ?_)
            (refine rqK rfl ?_; (repeat' first | exact rfl | (refine qS ?_; constructor)))
        · have : i = B.length := by omega
          subst this
          rw [hR, eachN_z hall]
          (repeat' first | (refine Owe.same ?_; first | refine Owe.o ?_ | refine Owe.mk ?_ ?_) | (refine Fork.same ?_; (first | refine fkD ?_ ?_ | refine fkN ?_ ?_ | refine fkM ?_ ?_) <;> (intro h; try (exfalso; omega))) | refine MvQ.stay ?_)
          (refine rqK rfl ?_; (repeat' first | exact rfl | (refine qS ?_; constructor)))
  · rw [netE, if_pos hr] at hR
    simp only [rngW] at hr
    subst hR
    refine pi2 fn85 ?_
    (repeat' first | (refine Owe.same ?_; first | refine Owe.o ?_ | refine Owe.mk ?_ ?_) | (refine Fork.same ?_; (first | refine fkD ?_ ?_ | refine fkN ?_ ?_ | refine fkM ?_ ?_) <;> (intro h; try (exfalso; omega))) | ((first | refine OpsL.same ?_ | refine OpsDL.same ?_); first | refine pK C56 rfl rfl ?_ | refine pK C6 rfl rfl ?_) | refine MvQ.stay ?_)
    refine Sat.rd 3 ?_
    (repeat' first | (refine Owe.same ?_; first | refine Owe.o ?_ | refine Owe.mk ?_ ?_) | (refine Fork.same ?_; (first | refine fkD ?_ ?_ | refine fkN ?_ ?_ | refine fkM ?_ ?_) <;> (intro h; try (exfalso; omega))) | ((first | refine OpsL.same ?_ | refine OpsDL.same ?_); first | refine pK C56 rfl rfl ?_ | refine pK C6 rfl rfl ?_) | refine MvQ.stay ?_)
    all_goals (refine rqK rfl ?_; (repeat' first | exact rfl | (refine qS ?_; constructor)))
theorem C53 {w : FxB} {B : List FxN} : (B.length ≤ 1000000 ∧ ∀ i, i < B.length → (B.getD i fxn0).1.size ≤ 9223372036854775807) → PFD Try.prog 53 [nfv w B] (vi .i64 (netE w B).2) := fun h => by
  have c := C85 (w := w) h
  refine pi1 fn53 ?_
  (repeat' first | (refine Owe.same ?_; first | refine Owe.o ?_ | refine Owe.mk ?_ ?_) | (refine Fork.same ?_; (first | refine fkY ?_ | refine fkF ?_ | ((first | refine fkD ?_ ?_ | refine fkN ?_ ?_ | refine fkM ?_ ?_) <;> intro h))) | ((first | refine OpsL.same ?_ | refine OpsDL.same ?_); first | refine oK c rfl rfl rfl ?_) | refine MvQ.stay ?_)
  (refine rqK rfl ?_; (repeat' first | exact rfl | (refine qS ?_; constructor)))
theorem netE_ok {w : FxB} {B : List FxN} (h : (netE w B).2 = 0) : NetOk w B := by
  unfold netE at h
  split at h
  · cases h
  · rename_i hr
    have hr : rngW w := Classical.not_not.1 hr
    split at h
    · cases h
    · rename_i he
      split at h
      · cases h
      · rename_i hn
        have hb := eachN_ok.1 h
        have hb2 : ∀ i, i < B.length → nmP (B.getD i fxn0).1 ∧ (¬ ∃ k, k < i ∧ eqN B i k) ∧ SizP (B.getD i fxn0).2 := fun i hi => by
          have := hb i hi
          unfold bnE at this
          split at this
          · rename_i h1
            split at this
            · cases this
            · rename_i h2
              split at this
              · rename_i h3; exact ⟨h1, h2, h3⟩
              · cases this
          · cases this
        simp only [rngW] at hr
        unfold empB at he
        refine ⟨⟨by omega, by omega, by omega⟩, by omega, ⟨by omega, by omega, by omega⟩, by omega, fun i hi => (hb2 i hi).1, fun i hi k hk he => (hb2 i hi).2.1 ⟨k, hk, he⟩, fun i hi => ?_⟩
        obtain ⟨h1, h2, h3⟩ := (hb2 i hi).2.2
        exact ⟨by simp only [sgl]; omega, by simp only [sgl]; omega, by simp only [sgl]; omega⟩
instance {a b : FxB} : Decidable (a = b) := inferInstance
noncomputable def bxE5 (w : FxB) (B : List FxN) (b : FxB) : Int := if (netE w B).2 ≠ 0 then (netE w B).2 else if empB b then 9 else if cmnB b w ≠ b then 2 else 0
theorem eq6 {a b : FxB} (h : (decide (a.1.1 = b.1.1) && decide (a.1.2 = b.1.2) && decide (a.2.1.1 = b.2.1.1) && decide (a.2.1.2 = b.2.1.2) && decide (a.2.2.1 = b.2.2.1) && decide (a.2.2.2 = b.2.2.2)) = true) : a = b := by
  simp only [Bool.and_eq_true, decide_eq_true_eq] at h
  obtain ⟨⟨⟨⟨⟨h1, h2⟩, h3⟩, h4⟩, h5⟩, h6⟩ := h
  obtain ⟨⟨a1, a2⟩, ⟨a3, a4⟩, a5, a6⟩ := a
  obtain ⟨⟨b1, b2⟩, ⟨b3, b4⟩, b5, b6⟩ := b
  simp only at h1 h2 h3 h4 h5 h6
  subst h1 h2 h3 h4 h5 h6
  rfl
theorem C16 {w b : FxB} {B : List FxN} : (B.length ≤ 1000000 ∧ ∀ i, i < B.length → (B.getD i fxn0).1.size ≤ 9223372036854775807) → PFD Try.prog 16 [nfv w B, bxv b] (vi .i64 (bxE5 w B b)) := fun h => by
  have c1 := C53 (w := w) h
  have c2 := C54 (a := b)
  have c3 := C26 (a := b) (b := w)
  obtain ⟨E, hE⟩ : ∃ E, E = (netE w B).2 := ⟨_, rfl⟩
  obtain ⟨M, hM⟩ : ∃ M, M = cmnB b w := ⟨_, rfl⟩
  rw [bxE5]
  rw [← hE] at c1 ⊢
  rw [← hM] at c3 ⊢
  by_cases h0 : E = 0
  · rw [if_neg (fun hh => hh h0)]
    subst h0
    by_cases he : empB b
    · rw [if_pos he]
      rw [decide_eq_true he] at c2
      refine pi1 fn16 ?_
      (repeat' first | (refine Owe.same ?_; first | refine Owe.o ?_ | refine Owe.mk ?_ ?_) | (refine Fork.same ?_; (first | refine fkY ?_ | refine fkF ?_ | ((first | refine fkD ?_ ?_ | refine fkN ?_ ?_ | refine fkM ?_ ?_) <;> (intro h; try (exfalso; omega))))) | ((first | refine OpsL.same ?_ | refine OpsDL.same ?_); first | refine oK c1 rfl rfl rfl ?_ | refine oK c2 rfl rfl rfl ?_) | refine MvQ.stay ?_)
      (refine rqK rfl ?_; (repeat' first | exact rfl | (refine qS ?_; constructor)))
    · rw [if_neg he]
      rw [decide_eq_false he] at c2
      by_cases hm : M = b
      · rw [if_neg (fun hh => hh hm)]
        subst hm
        refine pi1 fn16 ?_
        (repeat' first | (refine Owe.same ?_; first | refine Owe.o ?_ | refine Owe.mk ?_ ?_) | (refine Fork.same ?_; (first | refine fkY ?_ | refine fkF ?_ | ((first | refine fkD ?_ ?_ | refine fkN ?_ ?_ | refine fkM ?_ ?_) <;> (intro h; try (exfalso; omega))))) | ((first | refine OpsL.same ?_ | refine OpsDL.same ?_); first | refine oK c1 rfl rfl rfl ?_ | refine oK c2 rfl rfl rfl ?_ | refine oK c3 rfl rfl rfl ?_) | refine MvQ.stay ?_)
        (refine rqK rfl ?_; (repeat' first | exact rfl | (refine qS ?_; constructor)))
      · rw [if_pos hm]
        refine pi1 fn16 ?_
        (repeat' first | (refine Owe.same ?_; first | refine Owe.o ?_ | refine Owe.mk ?_ ?_) | (refine Fork.same ?_; (first | refine fkY ?_ | refine fkF ?_ | ((first | refine fkD ?_ ?_ | refine fkN ?_ ?_ | refine fkM ?_ ?_) <;> (intro h; try (exfalso; omega))))) | ((first | refine OpsL.same ?_ | refine OpsDL.same ?_); first | refine oK c1 rfl rfl rfl ?_ | refine oK c2 rfl rfl rfl ?_ | refine oK c3 rfl rfl rfl ?_) | refine MvQ.stay ?_)
        · (refine rqK rfl ?_; (repeat' first | exact rfl | (refine qS ?_; constructor)))
        · rename_i h; exact absurd (eq6 (by simpa using h)) hm
  · rw [if_pos h0]
    refine pi1 fn16 ?_
    (repeat' first | (refine Owe.same ?_; first | refine Owe.o ?_ | refine Owe.mk ?_ ?_) | (refine Fork.same ?_; (first | refine fkD ?_ ?_ | refine fkN ?_ ?_ | refine fkM ?_ ?_) <;> (intro h; try (exfalso; omega))) | ((first | refine OpsL.same ?_ | refine OpsDL.same ?_); first | refine pK c1 rfl rfl ?_) | refine MvQ.stay ?_)
    (refine rqK rfl ?_; (repeat' first | exact rfl | (refine qS ?_; constructor)))
theorem boxE_ok {w b : FxB} {B : List FxN} (h : bxE5 w B b = 0) : NetOk w B ∧ OrdB b ∧ HasB' w b := by
  unfold bxE5 at h
  split at h
  · rename_i h0; exact absurd h h0
  · rename_i h0
    have h0 : (netE w B).2 = 0 := Classical.not_not.1 h0
    split at h
    · cases h
    · rename_i he
      split at h
      · cases h
      · rename_i hm
        have hm : cmnB b w = b := Classical.not_not.1 hm
        unfold empB at he
        have e1 := congrArg (fun a : FxB => a.1.1) hm
        have e2 := congrArg (fun a : FxB => a.1.2) hm
        have e3 := congrArg (fun a : FxB => a.2.1.1) hm
        have e4 := congrArg (fun a : FxB => a.2.1.2) hm
        have e5 := congrArg (fun a : FxB => a.2.2.1) hm
        have e6 := congrArg (fun a : FxB => a.2.2.2) hm
        simp only [cmnB] at e1 e2 e3 e4 e5 e6
        exact ⟨netE_ok h0, ⟨by omega, by omega, by omega⟩, ⟨by omega, by omega, by omega⟩⟩
def rdE (n : Nat) (r : FxR) : Int :=
  if ¬ (0 ≤ r.1 ∧ r.1 ≤ 1) then 15 else
  if r.1 = 1 then (if ¬ (0 ≤ r.2.1 ∧ r.2.1 ≤ 2) then 6 else if ¬ (-30000 ≤ r.2.2.1 ∧ r.2.2.1 ≤ 30000) ∨ ¬ (-30000 ≤ r.2.2.2 ∧ r.2.2.2 ≤ 30000) then 2 else if r.2.2.2 < r.2.2.1 then 9 else 0)
  else (if ¬ (0 ≤ r.2.1 ∧ r.2.1 ≤ (n : Int) - 1) then 6 else if ¬ (0 ≤ r.2.2.1 ∧ r.2.2.1 ≤ 30000) ∨ ¬ (0 ≤ r.2.2.2 ∧ r.2.2.2 ≤ 30000) then 2 else if r.2.2.2 < r.2.2.1 then 9 else 0)
def rdsE (n : Nat) (l : List FxR) : Int × Int := if 8 < l.length then (0, 8) else eachN (fun i => rdE n (l.getD i fxr0)) 0 l.length
theorem C55 {w : FxB} {B : List FxN} {l : List FxR} : (B.length ≤ 1000000 ∧ l.length ≤ 9223372036854775807) → PFD Try.prog 55 [nfv w B, .c (rds l)] (.tup [vi .i64 (rdsE B.length l).1, vi .i64 (rdsE B.length l).2]) := fun ⟨hB, hl⟩ => by
  obtain ⟨R, hR⟩ : ∃ R, R = rdsE B.length l := ⟨_, rfl⟩
  rw [← hR]
  by_cases hn : 8 < l.length
  · rw [rdsE, if_pos hn] at hR
    subst hR
    refine pi2 fn55 ?_
    (repeat' first | (refine Owe.same ?_; first | refine Owe.o ?_ | refine Owe.mk ?_ ?_) | (refine Fork.same ?_; (first | refine fkD ?_ ?_ | refine fkN ?_ ?_ | refine fkM ?_ ?_) <;> (intro h; try (exfalso; omega))) | refine MvQ.stay ?_)
    (refine rqK rfl ?_; (repeat' first | exact rfl | (refine qS ?_; constructor)))
  rw [rdsE, if_neg hn] at hR
  refine pi2 fn55 ?_
  (repeat' first | (refine Owe.same ?_; first | refine Owe.o ?_ | refine Owe.mk ?_ ?_) | (refine Fork.same ?_; (first | refine fkD ?_ ?_ | refine fkN ?_ ?_ | refine fkM ?_ ?_) <;> (intro h; try (exfalso; omega))) | refine MvQ.stay ?_)
  refine Sat.lp0 (fun k : Nat => [(6, vi .i64 k), (2, .c (.rp (nfD w B))), (1, .c (rds l))]) (fun k => k ≤ l.length ∧ ∀ i, i < k → rdE B.length (l.getD i fxr0) = 0) (fun k => l.length - k) 0 ⟨Nat.zero_le _, fun i hi => by omega⟩ (by ((first | refine qen ?_ | refine qvs ?_ | refine qeq ?_ | refine qst ?_ | refine qv ?_ | refine qc ?_ | refine qe ?_ | refine qcs ?_ | skip); (repeat' first | exact rfl | (refine qS ?_; constructor)))) ?_
  rintro i ⟨hi, hall⟩
  refine Fork.dec (fun hlt => ?_) (fun hlt => ?_)
  · have hlt : i < l.length := by omega
    have stop : ∀ e : Int, rdE B.length (l.getD (i : Int).toNat fxr0) = e → e ≠ 0 → R = ((i : Int), e) := fun e h1 h2 => by
      have h1 : rdE B.length (l.getD i fxr0) = e := h1
      rw [hR, eachN_e hlt hall (by rw [h1]; exact h2), h1]
    have go : rdE B.length (l.getD (i : Int).toNat fxr0) = 0 → ∀ j, j < i + 1 → rdE B.length (l.getD j fxr0) = 0 := fun h => succ_all hall h
    by_cases h1 : (l.getD (i : Int).toNat fxr0).1 = 1
    · (repeat' first | (refine Owe.same ?_; first | refine Owe.o ?_ | refine Owe.mk ?_ ?_) | (refine Fork.same ?_; (first | refine fkD ?_ ?_ | refine fkN ?_ ?_ | refine fkM ?_ ?_) <;> (intro h; try (exfalso; omega))) | ((first | refine OpsL.same ?_ | refine OpsDL.same ?_); first | refine pK C6 rfl rfl ?_) | refine MvQ.stay ?_)
      all_goals first
        | (refine again0 (i + 1) ⟨hlt, go (by unfold rdE; (repeat' split) <;> omega)⟩ (by omega) (by ((first | refine qen ?_ | refine qvs ?_ | refine qeq ?_ | refine qst ?_ | refine qv ?_ | refine qc ?_ | refine qe ?_ | refine qcs ?_ | skip); (repeat' first | exact rfl | (refine qS ?_; constructor)))); done)
        | (rw [stop 15 (by unfold rdE; (repeat' split) <;> omega) (by decide)]; (refine rqK rfl ?_; (repeat' first | exact rfl | (refine qS ?_; constructor))); done)
        | (rw [stop 6 (by unfold rdE; (repeat' split) <;> omega) (by decide)]; (refine rqK rfl ?_; (repeat' first | exact rfl | (refine qS ?_; constructor))); done)
        | (rw [stop 2 (by unfold rdE; (repeat' split) <;> omega) (by decide)]; (refine rqK rfl ?_; (repeat' first | exact rfl | (refine qS ?_; constructor))); done)
        | (rw [stop 9 (by unfold rdE; (repeat' split) <;> omega) (by decide)]; (refine rqK rfl ?_; (repeat' first | exact rfl | (refine qS ?_; constructor))); done)
    · (repeat' first | (refine Owe.same ?_; first | refine Owe.o ?_ | refine Owe.mk ?_ ?_) | (refine Fork.same ?_; (first | refine fkD ?_ ?_ | refine fkN ?_ ?_ | refine fkM ?_ ?_) <;> (intro h; try (exfalso; omega))) | ((first | refine OpsL.same ?_ | refine OpsDL.same ?_); first | refine pK C6 rfl rfl ?_) | refine MvQ.stay ?_)
      all_goals first
        | (refine again0 (i + 1) ⟨hlt, go (by unfold rdE; (repeat' split) <;> omega)⟩ (by omega) (by ((first | refine qen ?_ | refine qvs ?_ | refine qeq ?_ | refine qst ?_ | refine qv ?_ | refine qc ?_ | refine qe ?_ | refine qcs ?_ | skip); (repeat' first | exact rfl | (refine qS ?_; constructor)))); done)
        | (rw [stop 15 (by unfold rdE; (repeat' split) <;> omega) (by decide)]; (refine rqK rfl ?_; (repeat' first | exact rfl | (refine qS ?_; constructor))); done)
        | (rw [stop 6 (by unfold rdE; (repeat' split) <;> omega) (by decide)]; (refine rqK rfl ?_; (repeat' first | exact rfl | (refine qS ?_; constructor))); done)
        | (rw [stop 2 (by unfold rdE; (repeat' split) <;> omega) (by decide)]; (refine rqK rfl ?_; (repeat' first | exact rfl | (refine qS ?_; constructor))); done)
        | (rw [stop 9 (by unfold rdE; (repeat' split) <;> omega) (by decide)]; (refine rqK rfl ?_; (repeat' first | exact rfl | (refine qS ?_; constructor))); done)
  · have : i = l.length := by omega
    subst this
    rw [hR, eachN_z hall]
    (repeat' first | (refine Owe.same ?_; first | refine Owe.o ?_ | refine Owe.mk ?_ ?_) | (refine Fork.same ?_; (first | refine fkD ?_ ?_ | refine fkN ?_ ?_ | refine fkM ?_ ?_) <;> (intro h; try (exfalso; omega))) | refine MvQ.stay ?_)
    (refine rqK rfl ?_; (repeat' first | exact rfl | (refine qS ?_; constructor)))
noncomputable def rgE5 (w : FxB) (B : List FxN) (l : List FxR) : Int := if (netE w B).2 ≠ 0 then (netE w B).2 else (rdsE B.length l).2
theorem C17 {w : FxB} {B : List FxN} {l : List FxR} : ((B.length ≤ 1000000 ∧ ∀ i, i < B.length → (B.getD i fxn0).1.size ≤ 9223372036854775807) ∧ l.length ≤ 9223372036854775807) → PFD Try.prog 17 [nfv w B, .c (rds l)] (vi .i64 (rgE5 w B l)) := fun ⟨h, hl⟩ => by
  have c1 := C53 (w := w) h
  have c2 := C55 (w := w) (B := B) (l := l) ⟨h.1, hl⟩
  obtain ⟨E, hE⟩ : ∃ E, E = (netE w B).2 := ⟨_, rfl⟩
  obtain ⟨F, hF⟩ : ∃ F, F = rdsE B.length l := ⟨_, rfl⟩
  rw [rgE5, ← hE, ← hF]
  rw [← hE] at c1
  rw [← hF] at c2
  by_cases h0 : E = 0
  · rw [if_neg (fun hh => hh h0)]
    subst h0
    refine pi1 fn17 ?_
    (repeat' first | (refine Owe.same ?_; first | refine Owe.o ?_ | refine Owe.mk ?_ ?_) | (refine Fork.same ?_; (first | refine fkY ?_ | refine fkF ?_ | ((first | refine fkD ?_ ?_ | refine fkN ?_ ?_ | refine fkM ?_ ?_) <;> (intro h; try (exfalso; omega))))) | ((first | refine OpsL.same ?_ | refine OpsDL.same ?_); first | refine oK c1 rfl rfl rfl ?_ | refine oK c2 rfl rfl rfl ?_) | refine MvQ.stay ?_)
    (refine rqK rfl ?_; (repeat' first | exact rfl | (refine qS ?_; constructor)))
  · rw [if_pos h0]
    refine pi1 fn17 ?_
    (repeat' first | (refine Owe.same ?_; first | refine Owe.o ?_ | refine Owe.mk ?_ ?_) | (refine Fork.same ?_; (first | refine fkD ?_ ?_ | refine fkN ?_ ?_ | refine fkM ?_ ?_) <;> (intro h; try (exfalso; omega))) | ((first | refine OpsL.same ?_ | refine OpsDL.same ?_); first | refine pK c1 rfl rfl ?_) | refine MvQ.stay ?_)
    (refine rqK rfl ?_; (repeat' first | exact rfl | (refine qS ?_; constructor)))
theorem rgE_ok {w : FxB} {B : List FxN} {l : List FxR} (h : rgE5 w B l = 0) : RdsOk B.length l := by
  unfold rgE5 at h
  split at h
  · rename_i h0; exact absurd h h0
  · unfold rdsE at h
    split at h
    · cases h
    · rename_i hn
      have hb := eachN_ok.1 h
      refine ⟨by omega, fun i hi => ?_⟩
      have := hb i hi
      generalize l.getD i fxr0 = r at this
      unfold rdE at this
      (repeat' split at this) <;> first
        | (exfalso; omega)
        | exact ⟨by omega, fun h => ⟨by omega, by omega, by omega⟩, fun h => ⟨by omega, by omega, by omega⟩, by omega⟩
theorem C20 {w : FxB} {B : List FxN} : B.length ≤ 1000000 → PFD Try.prog 20 [nfv w B] (nfv w B) := fun h => by
  refine pi1 fn20 ?_
  (repeat' first | (refine Owe.same ?_; first | refine Owe.o ?_ | refine Owe.mk ?_ ?_) | (refine Fork.same ?_; (first | refine fkD ?_ ?_ | refine fkN ?_ ?_ | refine fkM ?_ ?_) <;> intro h) | refine MvQ.stay ?_)
  (refine rqK rfl ?_; (repeat' first | exact rfl | (refine qS ?_; constructor)))
theorem C21 {l : List FxR} : l.length ≤ 1000000 → PFD Try.prog 21 [.c (rds l)] (.c (rds l)) := fun h => by
  refine pi1 fn21 ?_
  (repeat' first | (refine Owe.same ?_; first | refine Owe.o ?_ | refine Owe.mk ?_ ?_) | (refine Fork.same ?_; (first | refine fkD ?_ ?_ | refine fkN ?_ ?_ | refine fkM ?_ ?_) <;> intro h) | refine MvQ.stay ?_)
  (refine rqK rfl ?_; (repeat' first | exact rfl | (refine qS ?_; constructor)))
theorem C23 {l : List Int} {n : Int} : l.length ≤ 1000000 → PFD Try.prog 23 [.c (ints l), vi .i64 n] (vbl (decide (n ∈ l))) := fun h => by
  obtain ⟨q, hq⟩ : ∃ q, q = decide (n ∈ l) := ⟨_, rfl⟩
  rw [← hq]
  refine pi1 fn23 ?_
  (repeat' first | (refine Owe.same ?_; first | refine Owe.o ?_ | refine Owe.mk ?_ ?_) | (refine Fork.same ?_; (first | refine fkD ?_ ?_ | refine fkN ?_ ?_ | refine fkM ?_ ?_) <;> intro h) | refine MvQ.stay ?_)
  refine Sat.lp0 (fun k : Nat => [(5, vi .i64 k), (0, .c (ints l)), (1, vi .i64 n)]) (fun k => k ≤ l.length ∧ ∀ i, i < k → ¬ l.getD i 0 = n) (fun k => l.length - k) 0 ⟨Nat.zero_le _, fun i hi => by omega⟩ (by ((first | refine qen ?_ | refine qvs ?_ | refine qeq ?_ | refine qst ?_ | refine qv ?_ | refine qc ?_ | refine qe ?_ | refine qcs ?_ | skip); (repeat' first | exact rfl | (refine qS ?_; constructor)))) ?_
  rintro k ⟨hk, hne⟩
  refine Fork.dec (fun hlt => ?_) (fun hlt => ?_)
  · have hlt : k < l.length := by omega
    (repeat' first | (refine Owe.same ?_; first | refine Owe.o ?_ | refine Owe.mk ?_ ?_) | (refine Fork.same ?_; (first | refine fkD ?_ ?_ | refine fkN ?_ ?_ | refine fkM ?_ ?_) <;> intro h) | refine MvQ.stay ?_)
    · have h : l.getD k 0 = n := h
      have : q = true := by rw [hq, decide_eq_true_eq, ← h]; exact getD_mem 0 hlt
      subst this
      (refine rqK rfl ?_; (repeat' first | exact rfl | (refine qS ?_; constructor)))
    · exact again0 (k + 1) ⟨hlt, succ_all hne h⟩ (by omega) (by ((first | refine qen ?_ | refine qvs ?_ | refine qeq ?_ | refine qst ?_ | refine qv ?_ | refine qc ?_ | refine qe ?_ | refine qcs ?_ | skip); (repeat' first | exact rfl | (refine qS ?_; constructor))))
  · have hk' : k = l.length := by omega
    have : q = false := by
      rw [hq, decide_eq_false_iff_not]
      intro hm
      obtain ⟨i, hi, he⟩ := List.getElem_of_mem hm
      refine hne i (by omega) ?_
      rw [List.getD_eq_getElem?_getD, List.getElem?_eq_getElem hi]; exact he
    subst this
    (repeat' first | (refine Owe.same ?_; first | refine Owe.o ?_ | refine Owe.mk ?_ ?_) | (refine Fork.same ?_; (first | refine fkD ?_ ?_ | refine fkN ?_ ?_ | refine fkM ?_ ?_) <;> intro h) | refine MvQ.stay ?_)
    (refine rqK rfl ?_; (repeat' first | exact rfl | (refine qS ?_; constructor)))
abbrev exW5 : FxB := ((-10, 10), (-10, 10), (0, 20))
abbrev exB5 : List FxN := [(⟨#[97]⟩, (0, 0, 0)), (⟨#[98]⟩, (6, 0, 0))]
abbrev exF5 : FxB := ((0, 6), (0, 0), (0, 4))
abbrev exS5 : FxB := ((0, 4), (0, 0), (3, 3))
abbrev exR5 : List FxR := [(0, 0, 5, 5), (0, 1, 5, 5), (1, 2, 0, 1)]
abbrev mvv (t : Int) (v : FxB) : V := .agg [int t, int v.1.1, int v.1.2, int v.2.1.1, int v.2.1.2, int v.2.2.1, int v.2.2.2]
abbrev exV5 : FxB := ((1, 3), (0, 1), (-1, 0))
theorem C46 : PFD Try.prog 46 [] (nfv exW5 exB5) := by
  refine pi1 fn46 ?_
  (repeat' first | (refine Owe.same ?_; first | refine Owe.o ?_ | refine Owe.mk ?_ ?_) | (refine Fork.same ?_; (first | refine fkD ?_ ?_ | refine fkN ?_ ?_ | refine fkM ?_ ?_) <;> intro h) | refine MvQ.stay ?_)
  (refine rqK rfl ?_; (repeat' first | exact rfl | (refine qS ?_; constructor)))
theorem C47 : PFD Try.prog 47 [] (bxv exF5) := by
  refine pi1 fn47 ?_
  (repeat' first | (refine Owe.same ?_; first | refine Owe.o ?_ | refine Owe.mk ?_ ?_) | (refine Fork.same ?_; (first | refine fkD ?_ ?_ | refine fkN ?_ ?_ | refine fkM ?_ ?_) <;> intro h) | refine MvQ.stay ?_)
  (refine rqK rfl ?_; (repeat' first | exact rfl | (refine qS ?_; constructor)))
theorem C48 : PFD Try.prog 48 [] (.c (rds exR5)) := by
  refine pi1 fn48 ?_
  (repeat' first | (refine Owe.same ?_; first | refine Owe.o ?_ | refine Owe.mk ?_ ?_) | (refine Fork.same ?_; (first | refine fkD ?_ ?_ | refine fkN ?_ ?_ | refine fkM ?_ ?_) <;> intro h) | refine MvQ.stay ?_)
  (refine rqK rfl ?_; (repeat' first | exact rfl | (refine qS ?_; constructor)))
theorem C50 : PFD Try.prog 50 [] (bxv exS5) := by
  refine pi1 fn50 ?_
  (repeat' first | (refine Owe.same ?_; first | refine Owe.o ?_ | refine Owe.mk ?_ ?_) | (refine Fork.same ?_; (first | refine fkD ?_ ?_ | refine fkN ?_ ?_ | refine fkM ?_ ?_) <;> intro h) | refine MvQ.stay ?_)
  (refine rqK rfl ?_; (repeat' first | exact rfl | (refine qS ?_; constructor)))
theorem C51 : PFD Try.prog 51 [] (mvv 2 exV5) := by
  refine pi1 fn51 ?_
  (repeat' first | (refine Owe.same ?_; first | refine Owe.o ?_ | refine Owe.mk ?_ ?_) | (refine Fork.same ?_; (first | refine fkD ?_ ?_ | refine fkN ?_ ?_ | refine fkM ?_ ?_) <;> intro h) | refine MvQ.stay ?_)
  (refine rqK rfl ?_; (repeat' first | exact rfl | (refine qS ?_; constructor)))
theorem exN_ok : NetOk exW5 exB5 := by
  refine ⟨⟨by decide, by decide, by decide⟩, by decide, ⟨by decide, by decide, by decide⟩, by decide, fun i hi => ?_, fun i hi k hk => ?_, fun i hi => ?_⟩
  · rcases (show i = 0 ∨ i = 1 by simp at hi; omega) with rfl | rfl
    · exact ⟨by decide, by decide, by decide⟩
    · exact ⟨by decide, by decide, by decide⟩
  · have : i = 1 := by simp at hi; omega
    subst this
    have : k = 0 := by omega
    subst this
    decide
  · rcases (show i = 0 ∨ i = 1 by simp at hi; omega) with rfl | rfl
    · exact ⟨by decide, by decide, by decide⟩
    · exact ⟨by decide, by decide, by decide⟩
theorem exR_ok : RdsOk exB5.length exR5 := ⟨by decide, fun i hi => by
  rcases (show i = 0 ∨ i = 1 ∨ i = 2 by simp at hi; omega) with rfl | rfl | rfl
  · exact ⟨.inl rfl, (fun _ => by decide), (fun h => by cases h), by decide⟩
  · exact ⟨.inl rfl, (fun _ => by decide), (fun h => by cases h), by decide⟩
  · exact ⟨.inr rfl, (fun h => by cases h), (fun _ => by decide), by decide⟩⟩
theorem C52 : PFD Try.prog 52 [.c (ints [0]), .c (ints [0])] (vbl true) := by
  refine pi1 fn52 ?_
  (repeat' first | (refine Owe.same ?_; first | refine Owe.o ?_ | refine Owe.mk ?_ ?_) | (refine Fork.same ?_; (first | refine fkY ?_ | refine fkF ?_ | ((first | refine fkD ?_ ?_ | refine fkN ?_ ?_ | refine fkM ?_ ?_) <;> intro h))) | ((first | refine OpsL.same ?_ | refine OpsDL.same ?_); first | refine oK C93 rfl rfl rfl ?_) | refine MvQ.stay ?_)
  refine Sat.rd 1 ?_
  (repeat' first | (refine Owe.same ?_; first | refine Owe.o ?_ | refine Owe.mk ?_ ?_) | (refine Fork.same ?_; (first | refine fkY ?_ | refine fkF ?_ | ((first | refine fkD ?_ ?_ | refine fkN ?_ ?_ | refine fkM ?_ ?_) <;> intro h))) | ((first | refine OpsL.same ?_ | refine OpsDL.same ?_); first | refine oK C93 rfl rfl rfl ?_) | refine MvQ.stay ?_)
  (refine rqK rfl ?_; (repeat' first | exact rfl | (refine qS ?_; constructor)))
theorem C105 {t : Int} {v : FxB} : ((0 ≤ t ∧ t ≤ 1000) ∧ SizB 100 v ∧ OrdB v) → PFD Try.prog 105 [mvv t v] (vi .i64 0) := fun ⟨ht, hs, ho⟩ => by
  have c1 := C93 (n := t) (lo := 0) (hi := 1000)
  rw [decide_eq_true ht] at c1
  have c2 := C123 (a := v) (m := 100) ⟨by decide, hs⟩
  have c3 := C109 ho
  have c6 : ∀ e, PFD Try.prog 90 [vbl true, vi .i64 e] (vi .i64 0) := fun e => C90
  have c8 : PFD Try.prog 58 [.c (ints [0, 0])] (vi .i64 0) := C58 (l := [0, 0]) (by decide)
  refine pi1 fn105 ?_
  (repeat' first | (refine Owe.same ?_; first | refine Owe.o ?_ | refine Owe.mk ?_ ?_) | (refine Fork.same ?_; (first | refine fkY ?_ | refine fkF ?_ | ((first | refine fkD ?_ ?_ | refine fkN ?_ ?_ | refine fkM ?_ ?_) <;> intro h))) | ((first | refine OpsL.same ?_ | refine OpsDL.same ?_); first | refine oK C87 rfl rfl rfl ?_ | refine oK c1 rfl rfl rfl ?_ | refine oK c2 rfl rfl rfl ?_ | refine oK c3 rfl rfl rfl ?_ | refine oK (c6 _) rfl rfl rfl ?_) | refine MvQ.stay ?_)
  ((first | refine OpsL.same ?_ | refine OpsDL.same ?_); first | refine pK c8 rfl rfl ?_)
  (repeat' first | (refine Owe.same ?_; first | refine Owe.o ?_ | refine Owe.mk ?_ ?_) | (refine Fork.same ?_; (first | refine fkY ?_ | refine fkF ?_ | ((first | refine fkD ?_ ?_ | refine fkN ?_ ?_ | refine fkM ?_ ?_) <;> intro h))) | ((first | refine OpsL.same ?_ | refine OpsDL.same ?_); first | refine oK c8 rfl rfl rfl ?_) | refine MvQ.stay ?_)
  (refine rqK rfl ?_; (repeat' first | exact rfl | (refine qS ?_; constructor)))
theorem C84x : PFD Try.prog 84 [ntv exW5 exB5, bxv exS5, mvv 2 exV5] (.tup [bxv ((2, 10), (0, 2), (1, 3)), vbl true]) := by
  have c1 := C87 (a := exV5)
  have c2 := C106 (a := ((2, 10), (0, 2), (1, 3))) (o := exW5) ⟨by decide, by decide, by decide⟩
  have c2 : PFD Try.prog 106 [bxv ((2, 10), (0, 2), (1, 3)), bxv exW5] (.tup [bxv ((2, 10), (0, 2), (1, 3)), vbl true]) := c2
  refine pi2 fn84 ?_
  (repeat' first | (refine Owe.same ?_; first | refine Owe.o ?_ | refine Owe.mk ?_ ?_) | (refine Fork.same ?_; (first | refine fkY ?_ | refine fkF ?_ | ((first | refine fkD ?_ ?_ | refine fkN ?_ ?_ | refine fkM ?_ ?_) <;> (intro h; try (exfalso; omega))))) | ((first | refine OpsL.same ?_ | refine OpsDL.same ?_); first | refine oK c1 rfl rfl rfl ?_) | refine MvQ.stay ?_)
  refine Sat.rd 3 ?_
  (repeat' first | (refine Owe.same ?_; first | refine Owe.o ?_ | refine Owe.mk ?_ ?_) | (refine Fork.same ?_; (first | refine fkY ?_ | refine fkF ?_ | ((first | refine fkD ?_ ?_ | refine fkN ?_ ?_ | refine fkM ?_ ?_) <;> (intro h; try (exfalso; omega))))) | ((first | refine OpsL.same ?_ | refine OpsDL.same ?_); first | refine oK c1 rfl rfl rfl ?_ | refine oK c2 rfl rfl rfl ?_) | refine MvQ.stay ?_)
  (refine rqK rfl ?_; (repeat' first | exact rfl | (refine qS ?_; constructor)))
theorem C83x : PFD Try.prog 83 [nfv exW5 exB5, bxv exS5, mvv 2 exV5, .c (.fn 84 [])] (.tup [bxv ((2, 10), (0, 2), (1, 3)), vi .i64 0]) := by
  have c1 := C57 (w := exW5) (b := exS5) (B := exB5) ⟨exN_ok, ⟨by decide, by decide, by decide⟩, ⟨by decide, by decide, by decide⟩⟩
  have c2 := C105 (t := 2) (v := exV5) ⟨by decide, ⟨by decide, by decide, by decide⟩, ⟨by decide, by decide, by decide⟩⟩
  have c3 := C69 (a := ((2, 10), (0, 2), (1, 3)))
  have c8 : PFD Try.prog 58 [.c (ints [0, 0])] (vi .i64 0) := C58 (l := [0, 0]) (by decide)
  refine pi2 fn83 ?_
  (repeat' first | (refine Owe.same ?_; first | refine Owe.o ?_ | refine Owe.mk ?_ ?_) | (refine Fork.same ?_; (first | refine fkY ?_ | refine fkF ?_ | ((first | refine fkD ?_ ?_ | refine fkN ?_ ?_ | refine fkM ?_ ?_) <;> intro h))) | ((first | refine OpsL.same ?_ | refine OpsDL.same ?_); first | refine oK c1 rfl rfl rfl ?_ | refine oK c2 rfl rfl rfl ?_) | refine MvQ.stay ?_)
  ((first | refine OpsL.same ?_ | refine OpsDL.same ?_); first | refine pK c8 rfl rfl ?_)
  (repeat' first | (refine Owe.same ?_; first | refine Owe.o ?_ | refine Owe.mk ?_ ?_) | (refine Fork.same ?_; (first | refine fkY ?_ | refine fkF ?_ | ((first | refine fkD ?_ ?_ | refine fkN ?_ ?_ | refine fkM ?_ ?_) <;> intro h))) | ((first | refine OpsL.same ?_ | refine OpsDL.same ?_); first | refine oK c8 rfl rfl rfl ?_ | refine oK C84x rfl rfl rfl ?_ | refine oK c3 rfl rfl rfl ?_) | refine MvQ.stay ?_)
  (refine rqK rfl ?_; (repeat' first | exact rfl | (refine qS ?_; constructor)))
theorem C49x : PFD Try.prog 49 [nfv exW5 exB5, bxv exS5, mvv 2 exV5] (.tup [bxv ((2, 10), (0, 2), (1, 3)), vi .i64 0]) := by
  refine pi2 fn49 ?_
  (repeat' first | (refine Owe.same ?_; first | refine Owe.o ?_ | refine Owe.mk ?_ ?_) | (refine Fork.same ?_; (first | refine fkY ?_ | refine fkF ?_ | ((first | refine fkD ?_ ?_ | refine fkN ?_ ?_ | refine fkM ?_ ?_) <;> intro h))) | ((first | refine OpsL.same ?_ | refine OpsDL.same ?_); first | refine oK C83x rfl rfl rfl ?_) | refine MvQ.stay ?_)
  (refine rqK rfl ?_; (repeat' first | exact rfl | (refine qS ?_; constructor)))
theorem exWr : wrR exB5 exF5 exR5 = ⟨[0], (1, 0, 0), true⟩ := by
  have h1 : (wrR exB5 exF5 exR5).best = [0] := by decide +kernel
  have h2 : (wrR exB5 exF5 exR5).wit = (1, 0, 0) := by decide +kernel
  have h3 : (wrR exB5 exF5 exR5).found = true := by decide +kernel
  generalize wrR exB5 exF5 exR5 = s at h1 h2 h3
  obtain ⟨a, b, c⟩ := s
  simp only at h1 h2 h3
  subst h1 h2 h3
  rfl
theorem C15 : PFD Try.prog 15 [] (vbl true) := by
  have c1 := C19 (w := exW5) (b := exF5) (B := exB5) (l := exR5) ⟨⟨exN_ok, ⟨by decide, by decide, by decide⟩, ⟨by decide, by decide, by decide⟩, by decide⟩, exR_ok⟩
  rw [exWr] at c1
  have c1 : PFD Try.prog 19 [nfv exW5 exB5, bxv exF5, .c (rds exR5)] (.tup [.c (ints [0]), ptv (1, 0, 0), vi .i64 0]) := c1
  refine pi1 fn15 ?_
  (repeat' first | (refine Owe.same ?_; first | refine Owe.o ?_ | refine Owe.mk ?_ ?_) | (refine Fork.same ?_; (first | refine fkY ?_ | refine fkF ?_ | ((first | refine fkD ?_ ?_ | refine fkN ?_ ?_ | refine fkM ?_ ?_) <;> intro h))) | ((first | refine OpsL.same ?_ | refine OpsDL.same ?_); first | refine oK C46 rfl rfl rfl ?_ | refine oK C47 rfl rfl rfl ?_ | refine oK C48 rfl rfl rfl ?_ | refine oK c1 rfl rfl rfl ?_ | refine oK C50 rfl rfl rfl ?_ | refine oK C51 rfl rfl rfl ?_ | refine oK C49x rfl rfl rfl ?_) | refine MvQ.stay ?_)
  ((first | refine OpsL.same ?_ | refine OpsDL.same ?_); first | refine pK C52 rfl rfl ?_)
  (repeat' first | (refine Owe.same ?_; first | refine Owe.o ?_ | refine Owe.mk ?_ ?_) | (refine Fork.same ?_; (first | refine fkY ?_ | refine fkF ?_ | ((first | refine fkD ?_ ?_ | refine fkN ?_ ?_ | refine fkM ?_ ?_) <;> intro h))) | ((first | refine OpsL.same ?_ | refine OpsDL.same ?_); first | refine oK C52 rfl rfl rfl ?_) | refine MvQ.stay ?_)
  (refine rqK rfl ?_; (repeat' first | exact rfl | (refine qS ?_; constructor)))
end Go.Pw
set_option linter.unusedSimpArgs false
set_option linter.unusedVariables false
namespace Go.Pw
set_option maxRecDepth 2000
open Go Go.Proofs A1 A2 A3 A4
theorem fltL_mem {p : Nat → Bool} {n k : Nat} : (k : Int) ∈ fltL p n ↔ k < n ∧ p k = true := by
  rw [fltL, List.mem_map]
  constructor
  · rintro ⟨i, hi, he⟩
    have : i = k := by omega
    subst this
    exact ⟨List.mem_range.1 (List.mem_filter.1 hi).1, (List.mem_filter.1 hi).2⟩
  · rintro ⟨h1, h2⟩
    exact ⟨k, List.mem_filter.2 ⟨List.mem_range.2 h1, h2⟩, rfl⟩
theorem fltL_le {p q : Nat → Bool} : ∀ {n : Nat}, (∀ i, i < n → p i = true → q i = true) → (fltL p n).length ≤ (fltL q n).length
  | 0, _ => Nat.le_refl _
  | n + 1, h => by
    have ih := fltL_le (n := n) fun i hi => h i (by omega)
    rw [fltL_succ, fltL_succ]
    by_cases hp : p n = true
    · rw [if_pos hp, if_pos (h n (by omega) hp), List.length_append, List.length_append]; simpa using ih
    · rw [if_neg hp]
      split
      · rw [List.length_append]; omega
      · exact ih
theorem fltL_congr {p q : Nat → Bool} : ∀ {n : Nat}, (∀ i, i < n → p i = q i) → fltL p n = fltL q n
  | 0, _ => rfl
  | n + 1, h => by rw [fltL_succ, fltL_succ, fltL_congr (n := n) fun i hi => h i (by omega), h n (by omega)]
def othI (w : List Int) (k : Nat) : List Nat := (List.range k).filter fun i => !decide ((i : Int) ∈ w)
def othL (w : List Int) (l : List FxR) (k : Nat) : List FxR := (othI w k).map fun i => l.getD i fxr0
theorem othI_succ {w : List Int} {k : Nat} : othI w (k + 1) = if ((k : Nat) : Int) ∈ w then othI w k else othI w k ++ [k] := by
  rw [othI, List.range_succ, List.filter_append]
  by_cases h : (k : Int) ∈ w
  · rw [if_pos h]; simp [h, othI]
  · rw [if_neg h]; simp [h, othI]
theorem othL_succ {w : List Int} {l : List FxR} {k : Nat} : othL w l (k + 1) = if ((k : Nat) : Int) ∈ w then othL w l k else othL w l k ++ [l.getD k fxr0] := by
  rw [othL, othI_succ]
  split
  · rfl
  · rw [List.map_append]; rfl
theorem othL_len {w : List Int} {l : List FxR} {k : Nat} : (othL w l k).length ≤ k := by
  rw [othL, List.length_map, othI]
  have := List.length_filter_le (fun i : Nat => !decide ((i : Int) ∈ w)) (List.range k)
  rw [List.length_range] at this
  exact this
theorem oth_add {p : Nat → Bool} {n : Nat} : ∀ {k : Nat}, k ≤ n → (othI (fltL p n) k).length + (fltL p k).length = k
  | 0, _ => rfl
  | k + 1, h => by
    have ih := oth_add (p := p) (n := n) (k := k) (by omega)
    rw [othI_succ, fltL_succ]
    by_cases hp : p k = true
    · rw [if_pos (fltL_mem.2 ⟨by omega, hp⟩), if_pos hp, List.length_append, List.length_singleton]; omega
    · rw [if_neg (fun hm => hp (fltL_mem.1 hm).2), if_neg hp, List.length_append, List.length_singleton]; omega
theorem othL_mem {w : List Int} {l : List FxR} {k : Nat} {r : FxR} (h : r ∈ othL w l k) : ∃ i, i < k ∧ ¬ (i : Int) ∈ w ∧ r = l.getD i fxr0 := by
  obtain ⟨i, hi, rfl⟩ := List.mem_map.1 h
  obtain ⟨h1, h2⟩ := List.mem_filter.1 hi
  exact ⟨i, List.mem_range.1 h1, by simpa using h2, rfl⟩
theorem othL_in {w : List Int} {l : List FxR} {k i : Nat} (hi : i < k) (hw : ¬ (i : Int) ∈ w) : l.getD i fxr0 ∈ othL w l k :=
  List.mem_map.2 ⟨i, List.mem_filter.2 ⟨List.mem_range.2 hi, by simpa using hw⟩, rfl⟩
theorem wr_none {B : List FxN} {l : List FxR} {q : FxP} : (wrW B l q).length ≤ 0 ↔ ∀ r ∈ l, badP B q r = false := by
  constructor
  · intro h r hr
    obtain ⟨i, hi, rfl⟩ := List.getElem_of_mem hr
    cases hb : badP B q l[i]
    · rfl
    · have : (i : Int) ∈ wrW B l q := fltL_mem.2 ⟨hi, by rw [badL, List.getD_eq_getElem?_getD, List.getElem?_eq_getElem hi]; exact hb⟩
      have := List.length_pos_of_mem this
      omega
  · intro h
    refine Nat.le_of_eq ?_
    rw [List.length_eq_zero_iff]
    refine List.eq_nil_iff_forall_not_mem.2 fun x hx => ?_
    obtain ⟨i, hi, rfl⟩ := List.mem_map.1 hx
    obtain ⟨h1, h2⟩ := List.mem_filter.1 hi
    have h3 := List.mem_range.1 h1
    have := h (l.getD i fxr0) (getD_mem fxr0 h3)
    rw [badL] at h2
    rw [this] at h2
    cases h2
structure FxLaw (B : List FxN) (b : FxB) (l : List FxR) (w : List Int) (p : FxP) (f v : FxB × Int) : Prop where
  len : w.length ≤ l.length
  inb : inB b p
  add : (othL w l l.length).length + w.length = l.length
  one : 1 ≤ f.2
  inf : inB f.1 p
  cmn : cmnB f.1 v.1 = f.1
  mor : f.2 ≤ v.2
  nil : w.length = 1 → (vtR B b l 0).2 = 0
  no : ∀ k, k < l.length → ansB B b 2 0 1 (l.getD k fxr0) = 0 → (k : Int) ∈ w
  yes : ∀ k, k < l.length → ansB B b 2 0 1 (l.getD k fxr0) = 2 → ¬ (k : Int) ∈ w
  few : ∀ m, l.length = m + 1 → (wrR B b (l.take m)).best.length ≤ w.length ∧ w.length ≤ (wrR B b (l.take m)).best.length + 1
theorem take_wr {B : List FxN} {l : List FxR} {q : FxP} {m : Nat} (h : l.length = m + 1) : (wrW B (l.take m) q).length ≤ (wrW B l q).length ∧ (wrW B l q).length ≤ (wrW B (l.take m) q).length + 1 := by
  have e1 : (l.take m).length = m := by rw [List.length_take]; omega
  have e2 : wrW B (l.take m) q = fltL (badL B l q) m := by
    rw [wrW, e1]
    refine fltL_congr fun i hi => ?_
    rw [badL, badL, getD_take' hi]
  rw [e2, wrW, h, fltL_succ]
  split
  · rw [List.length_append]; simp
  · omega
theorem fx_law {B : List FxN} {b : FxB} {l : List FxR} (hb : OrdB b) : FxLaw B b l (wrR B b l).best (wrR B b l).wit (vtR B b (othL (wrR B b l).best l l.length) 0) (vtR B b l (wrR B b l).best.length) := by
  have hne : posB b ≠ [] := pos_ne ⟨hb.x, hb.y, hb.z⟩
  obtain ⟨_, hW⟩ := stW_all (cmp := cmpL) (f := wrW B l) hne
  have hW : InW (wrW B l) (posB b) (wrR B b l) := hW
  generalize wrR B b l = W at hW
  obtain ⟨w, p, fd⟩ := W
  obtain ⟨he, hm, hl⟩ := hW
  simp only at he hm hl ⊢
  have hin := pos_mem.1 hm
  have hmem : ∀ k : Nat, (k : Int) ∈ w → k < l.length ∧ badL B l p k = true := fun k hk => by rw [he] at hk; exact fltL_mem.1 hk
  have hmem2 : ∀ k : Nat, k < l.length → badL B l p k = true → ((k : Nat) : Int) ∈ w := fun k h1 h2 => by rw [he]; exact fltL_mem.2 ⟨h1, h2⟩
  have okp : okV B (othL w l l.length) 0 p = true := by
    refine decide_eq_true ?_
    have : (wrW B (othL w l l.length) p).length ≤ 0 := wr_none.2 fun r hr => by
      obtain ⟨i, h1, h2, rfl⟩ := othL_mem hr
      cases hbb : badP B p (l.getD i fxr0)
      · rfl
      · exact absurd (hmem2 i h1 hbb) h2
    omega
  have mono : ∀ q, okV B (othL w l l.length) 0 q = true → okV B l w.length q = true := fun q hq => by
    have hq : ((wrW B (othL w l l.length) q).length : Int) ≤ 0 := of_decide_eq_true hq
    have hq := wr_none.1 (show (wrW B (othL w l l.length) q).length ≤ 0 by omega)
    refine decide_eq_true ?_
    have : (wrW B l q).length ≤ w.length := by
      rw [he]
      refine fltL_le fun i hi hbi => ?_
      cases hbp : badL B l p i
      · have hnw : ¬ ((i : Nat) : Int) ∈ w := fun hh => by rw [(hmem i hh).2] at hbp; cases hbp
        have := hq _ (othL_in hi hnw)
        rw [badL, this] at hbi; cases hbi
      · rfl
    omega
  have hf1 : 0 < (vtR B b (othL w l l.length) 0).2 := by
    rw [vote_n]
    have : 0 < List.countP (okV B (othL w l l.length) 0) (posB b) := List.countP_pos_iff.2 ⟨p, hm, okp⟩
    omega
  have hmv : (vtR B b (othL w l l.length) 0).2 ≤ (vtR B b l w.length).2 := by
    rw [vote_n, vote_n]
    have := List.countP_mono_left (p := okV B (othL w l l.length) 0) (q := okV B l w.length) (l := posB b) fun q _ => mono q
    omega
  have if1 := vote_in hf1
  have if2 := vote_in (ok := okV B l w.length) (L := posB b) (by show 0 < (vtR B b l (w.length : Int)).2; omega)
  refine ⟨?_, hin, ?_, by omega, if1.i p (List.mem_filter.2 ⟨hm, okp⟩), cmn_eq if1 if2 fun g hg => ?_, hmv, fun h1 => ?_, fun k hk ha => ?_, fun k hk ha => ?_, fun m hlm => ?_⟩
  · rw [he]; exact fltL_len _ _
  · have h1 := oth_add (p := badL B l p) (n := l.length) (k := l.length) (Nat.le_refl _)
    rw [othL, List.length_map]
    have : w = fltL (badL B l p) l.length := he
    rw [this]; exact h1
  · obtain ⟨h1, h2⟩ := List.mem_filter.1 hg
    exact List.mem_filter.2 ⟨h1, mono g h2⟩
  · rw [vote_n]
    have : List.countP (okV B l 0) (posB b) = 0 := List.countP_eq_zero.2 fun q hq hh => by
      have h2 := hl q hq
      have h3 : ((wrW B l q).length : Int) ≤ 0 := of_decide_eq_true hh
      omega
    omega
  · exact hmem2 k hk (ans_no hin (by decide) (by decide) ha)
  · intro hh
    have h1 := (hmem k hh).2
    rw [badL, ans_yes hin (by decide) (by decide) ha] at h1
    cases h1
  · obtain ⟨_, hW2⟩ := stW_all (cmp := cmpL) (f := wrW B (l.take m)) hne
    have hW2 : InW (wrW B (l.take m)) (posB b) (wrR B b (l.take m)) := hW2
    generalize wrR B b (l.take m) = V at hW2
    obtain ⟨v, q, fd2⟩ := V
    obtain ⟨he2, hm2, hl2⟩ := hW2
    simp only at he2 hm2 hl2 ⊢
    have a1 := hl2 p hm
    have a2 := (take_wr (B := B) (q := p) hlm).1
    have a3 := hl q hm2
    have a4 := (take_wr (B := B) (q := q) hlm).2
    rw [← he] at a2
    rw [← he2] at a4
    omega
end Go.Pw
set_option linter.unusedSimpArgs false
set_option linter.unusedVariables false
set_option maxHeartbeats 8000000
namespace Go.Pw
set_option maxRecDepth 2000
open Go Go.Proofs A1 A2 A3 A4
theorem C21t {l : List FxR} {m : Nat} : (l.length ≤ 1000000 ∧ l.length = m + 1) → PFD Try.prog 21 [.c (.d (.sl 4 ((l.length : Int) - 1).toNat fun i => rdD (l.getD i fxr0)))] (.c (rds (l.take m))) := fun ⟨h, hm⟩ =>
  PFD.ri (C21 (l := l.take m) (by rw [List.length_take]; omega)) (.cons (VEq.ri (.c _ _ (CEq.sl (by rw [List.length_take]; omega) fun i hi => by rw [getD_take' (by omega)]))) .nil)
theorem C4a {w b : FxB} {B : List FxN} {l : List FxR} {p0 : FxP} : ((∀ i, i < B.length → (B.getD i fxn0).1.size ≤ 9223372036854775807) ∧ B.length ≤ 9223372036854775807 ∧ l.length ≤ 9223372036854775807) → (¬ (B.length ≤ 6 ∧ (1 ≤ l.length ∧ l.length ≤ 7) ∧ bxE5 w B b = 0 ∧ rgE5 w B l = 0 ∧ ¬ lrgB b ∧ (b.1.2 - b.1.1 + 1) * (b.2.1.2 - b.2.1.1 + 1) * (b.2.2.2 - b.2.2.1 + 1) ≤ 700)) →
    PFD Try.prog 4 [nfv w B, bxv b, .agg [rds l, int p0.1, int p0.2.1, int p0.2.2]] (vbl true) := fun ⟨hsz, hB, hl⟩ hno => by
  by_cases h1 : B.length ≤ 6
  case neg =>
    refine pi1 fn4 ?_
    (repeat' first | (refine Owe.same ?_; first | refine Owe.o ?_ | refine Owe.mk ?_ ?_) | (refine Fork.same ?_; (first | refine fkY ?_ | refine fkF ?_ | ((first | refine fkD ?_ ?_ | refine fkN ?_ ?_ | refine fkM ?_ ?_) <;> (intro h; try (exfalso; omega))))) | ((first | refine OpsL.same ?_ | refine OpsDL.same ?_); first | refine oK C15 rfl rfl rfl ?_) | refine MvQ.stay ?_)
    (refine rqK rfl ?_; (repeat' first | exact rfl | (refine qS ?_; constructor)))
  by_cases h2 : 1 ≤ l.length ∧ l.length ≤ 7
  case neg =>
    refine pi1 fn4 ?_
    (repeat' first | (refine Owe.same ?_; first | refine Owe.o ?_ | refine Owe.mk ?_ ?_) | (refine Fork.same ?_; (first | refine fkY ?_ | refine fkF ?_ | ((first | refine fkD ?_ ?_ | refine fkN ?_ ?_ | refine fkM ?_ ?_) <;> (intro h; try (exfalso; omega))))) | ((first | refine OpsL.same ?_ | refine OpsDL.same ?_); first | refine oK C15 rfl rfl rfl ?_) | refine MvQ.stay ?_)
    all_goals (refine rqK rfl ?_; (repeat' first | exact rfl | (refine qS ?_; constructor)))
  have c16 := C16 (w := w) (b := b) ⟨by omega, hsz⟩
  have c17 := C17 (w := w) (l := l) ⟨⟨by omega, hsz⟩, by omega⟩
  by_cases h3 : bxE5 w B b = 0
  case neg =>
    generalize bxE5 w B b = E at h3 c16
    refine pi1 fn4 ?_
    (repeat' first | (refine Owe.same ?_; first | refine Owe.o ?_ | refine Owe.mk ?_ ?_) | (refine Fork.same ?_; (first | refine fkY ?_ | refine fkF ?_ | ((first | refine fkD ?_ ?_ | refine fkN ?_ ?_ | refine fkM ?_ ?_) <;> (intro h; try (exfalso; omega))))) | ((first | refine OpsL.same ?_ | refine OpsDL.same ?_); first | refine oK C15 rfl rfl rfl ?_ | refine oK c16 rfl rfl rfl ?_) | refine MvQ.stay ?_)
    (refine rqK rfl ?_; (repeat' first | exact rfl | (refine qS ?_; constructor)))
  obtain ⟨n1, n2, n3⟩ := boxE_ok h3
  have hs : SizB 10000 b := by
    obtain ⟨x, y, z⟩ := n3
    obtain ⟨ox, oy, oz⟩ := n2
    obtain ⟨sx, sy, sz⟩ := n1.siz
    exact ⟨by omega, by omega, by omega⟩
  rw [h3] at c16
  by_cases h4 : rgE5 w B l = 0
  case neg =>
    generalize rgE5 w B l = E at h4 c17
    refine pi1 fn4 ?_
    (repeat' first | (refine Owe.same ?_; first | refine Owe.o ?_ | refine Owe.mk ?_ ?_) | (refine Fork.same ?_; (first | refine fkY ?_ | refine fkF ?_ | ((first | refine fkD ?_ ?_ | refine fkN ?_ ?_ | refine fkM ?_ ?_) <;> (intro h; try (exfalso; omega))))) | ((first | refine OpsL.same ?_ | refine OpsDL.same ?_); first | refine oK C15 rfl rfl rfl ?_ | refine oK c16 rfl rfl rfl ?_ | refine oK c17 rfl rfl rfl ?_) | refine MvQ.stay ?_)
    (refine rqK rfl ?_; (repeat' first | exact rfl | (refine qS ?_; constructor)))
  rw [h4] at c17
  have c18 := C18 hs
  by_cases h5 : lrgB b
  case pos =>
    rw [decide_eq_true h5] at c18
    refine pi1 fn4 ?_
    (repeat' first | (refine Owe.same ?_; first | refine Owe.o ?_ | refine Owe.mk ?_ ?_) | (refine Fork.same ?_; (first | refine fkY ?_ | refine fkF ?_ | ((first | refine fkD ?_ ?_ | refine fkN ?_ ?_ | refine fkM ?_ ?_) <;> (intro h; try (exfalso; omega))))) | ((first | refine OpsL.same ?_ | refine OpsDL.same ?_); first | refine oK C15 rfl rfl rfl ?_ | refine oK c16 rfl rfl rfl ?_ | refine oK c17 rfl rfl rfl ?_ | refine oK c18 rfl rfl rfl ?_) | refine MvQ.stay ?_)
    (refine rqK rfl ?_; (repeat' first | exact rfl | (refine qS ?_; constructor)))
  rw [decide_eq_false h5] at c18
  have h6 : 700 < (b.1.2 - b.1.1 + 1) * (b.2.1.2 - b.2.1.1 + 1) * (b.2.2.2 - b.2.2.1 + 1) := by
    refine Int.not_le.1 fun h => hno ⟨h1, h2, h3, h4, h5, h⟩
  have m1 := mbd (dim_bd hs.x) (dim_bd hs.y)
  have m2 := mbd (A := 20001 * 20001) m1 (dim_bd hs.z)
  obtain ⟨hx, hy, hz⟩ := hs
  refine pi1 fn4 ?_
  (repeat' first | (refine Owe.same ?_; first | refine Owe.o ?_ | refine Owe.mk ?_ ?_) | (refine Fork.same ?_; (first | refine fkY ?_ | refine fkF ?_ | ((first | refine fkD ?_ ?_ | refine fkN ?_ ?_ | refine fkM ?_ ?_) <;> (intro h; try (exfalso; omega))))) | ((first | refine OpsL.same ?_ | refine OpsDL.same ?_); first | refine oK C15 rfl rfl rfl ?_ | refine oK c16 rfl rfl rfl ?_ | refine oK c17 rfl rfl rfl ?_ | refine oK c18 rfl rfl rfl ?_) | refine MvQ.stay ?_)
  (refine rqK rfl ?_; (repeat' first | exact rfl | (refine qS ?_; constructor)))
theorem C4b {w b : FxB} {B : List FxN} {l : List FxR} {p0 : FxP} : ((∀ i, i < B.length → (B.getD i fxn0).1.size ≤ 9223372036854775807) ∧ B.length ≤ 6 ∧ (1 ≤ l.length ∧ l.length ≤ 7) ∧ bxE5 w B b = 0 ∧ rgE5 w B l = 0 ∧ ¬ lrgB b ∧ (b.1.2 - b.1.1 + 1) * (b.2.1.2 - b.2.1.1 + 1) * (b.2.2.2 - b.2.2.1 + 1) ≤ 700) →
    PFD Try.prog 4 [nfv w B, bxv b, .agg [rds l, int p0.1, int p0.2.1, int p0.2.2]] (vbl true) := fun ⟨hsz, h1, h2, h3, h4, h5, h6⟩ => by
  have c16 := C16 (w := w) (b := b) ⟨by omega, hsz⟩
  have c17 := C17 (w := w) (l := l) ⟨⟨by omega, hsz⟩, by omega⟩
  obtain ⟨n1, n2, n3⟩ := boxE_ok h3
  have hR := rgE_ok h4
  rw [h3] at c16
  rw [h4] at c17
  have hs : SizB 10000 b := by
    obtain ⟨x, y, z⟩ := n3
    obtain ⟨ox, oy, oz⟩ := n2
    obtain ⟨sx, sy, sz⟩ := n1.siz
    exact ⟨by omega, by omega, by omega⟩
  have c18 := C18 hs
  rw [decide_eq_false h5] at c18
  have hFx : FxOk w b B := ⟨n1, n2, n3, by unfold lrgB at h5; omega⟩
  have m1 := mbd (dim_bd hs.x) (dim_bd hs.y)
  have m2 := mbd (A := 20001 * 20001) m1 (dim_bd hs.z)
  obtain ⟨hx, hy, hz⟩ := hs
  have hlaw := fx_law (B := B) (b := b) (l := l) n2
  have c20 := C20 (w := w) (B := B) (by omega)
  have c21 := C21 (l := l) (by omega)
  have c19 := C19 (w := w) ⟨hFx, hR⟩
  obtain ⟨wl, hwl⟩ : ∃ wl, wl = (wrR B b l).best := ⟨_, rfl⟩
  obtain ⟨wp, hwp⟩ : ∃ wp, wp = (wrR B b l).wit := ⟨_, rfl⟩
  rw [← hwl, ← hwp] at hlaw c19
  obtain ⟨q1, q2, q3, q4, q5, q6, q7, q8, q9, q10, q11⟩ := hlaw
  have c22 := C22 (a := b) (p := wp)
  rw [decide_eq_true q2] at c22
  refine pi1 fn4 ?_
  (repeat' first | (refine Owe.same ?_; first | refine Owe.o ?_ | refine Owe.mk ?_ ?_) | (refine Fork.same ?_; (first | refine fkY ?_ | refine fkF ?_ | ((first | refine fkD ?_ ?_ | refine fkN ?_ ?_ | refine fkM ?_ ?_) <;> (intro h; try (exfalso; omega))))) | ((first | refine OpsL.same ?_ | refine OpsDL.same ?_); first | refine oK C15 rfl rfl rfl ?_ | refine oK c16 rfl rfl rfl ?_ | refine oK c17 rfl rfl rfl ?_ | refine oK c18 rfl rfl rfl ?_ | refine oK c20 rfl rfl rfl ?_ | refine oK c21 rfl rfl rfl ?_ | refine oK c19 rfl rfl rfl ?_ | refine oK c22 rfl rfl rfl ?_) | refine MvQ.stay ?_)
  refine Sat.nilS 11 73 4 (fun i => rdD (([] : List FxR).getD i fxr0)) rfl ?_
  refine Sat.lp (fun k : Nat => ⟨[(12, vi .i64 k), (8, .c (ints wl)), (7, .c (rds l)), (9, .c (.bp 0 0)), (11, .c (.ms 1 (othL wl l k).length)), (3, .c (.rp (nfD w B))), (4, .c (.rp (bxD b)))], [(0, .box [int wp.1, int wp.2.1, int wp.2.2]), (1, rowv 73 4 rdD fxr0 (othL wl l k))], 2⟩)
    (fun k => k ≤ l.length) (fun k => l.length - k) 0 [7, 11] (Nat.zero_le _) ?_ ?_
  · (refine qis ?_ ?_ <;> (repeat' first | exact rfl | (refine qS ?_; constructor)))
  intro k hk
  have ho := othL_len (w := wl) (l := l) (k := k)
  have c23 := C23 (l := wl) (n := (k : Int)) (by omega)
  refine Fork.dec (fun hlt => ?_) (fun hlt => ?_)
  · have hlt : k < l.length := by omega
    by_cases hm : (k : Int) ∈ wl
    · rw [decide_eq_true hm] at c23
      (repeat' first | (refine Owe.same ?_; first | refine Owe.o ?_ | refine Owe.mk ?_ ?_) | (refine Fork.same ?_; (first | refine fkY ?_ | refine fkF ?_ | ((first | refine fkD ?_ ?_ | refine fkN ?_ ?_ | refine fkM ?_ ?_) <;> intro h))) | ((first | refine OpsL.same ?_ | refine OpsDL.same ?_); first | refine oK c23 rfl rfl rfl ?_) | refine MvQ.stay ?_)
      refine again (k + 1) [0, 1] hlt (by omega) ?_
      rw [othL_succ, if_pos hm]
      (refine qis ?_ ?_ <;> (repeat' first | exact rfl | (refine qS ?_; constructor)))
    · rw [decide_eq_false hm] at c23
      (repeat' first | (refine Owe.same ?_; first | refine Owe.o ?_ | refine Owe.mk ?_ ?_) | (refine Fork.same ?_; (first | refine fkY ?_ | refine fkF ?_ | ((first | refine fkD ?_ ?_ | refine fkN ?_ ?_ | refine fkM ?_ ?_) <;> intro h))) | ((first | refine OpsL.same ?_ | refine OpsDL.same ?_); first | refine oK c23 rfl rfl rfl ?_) | refine MvQ.stay ?_)
      refine again (k + 1) [0, 2] hlt (by omega) ?_
      rw [othL_succ, if_neg hm]
      (refine qis ?_ ?_ <;> (repeat' first | exact rfl | (refine qS ?_; constructor)))
      · simp
      · exact ⟨_, rfl, rfl⟩
  · have : k = l.length := by omega
    subst this
    clear c23
    obtain ⟨ol, hol⟩ : ∃ ol, ol = othL wl l l.length := ⟨_, rfl⟩
    have hRo : RdsOk B.length ol := ⟨by rw [hol]; have := othL_len (w := wl) (l := l) (k := l.length); omega, fun i hi => by
      obtain ⟨j, h1, _, h2⟩ := othL_mem (w := wl) (l := l) (k := l.length) (by rw [← hol]; exact getD_mem fxr0 hi)
      rw [h2]; exact hR.ok j h1⟩
    rw [← hol] at q3 q4 q5 q6 q7 ho ⊢
    (repeat' first | (refine Owe.same ?_; first | refine Owe.o ?_ | refine Owe.mk ?_ ?_) | (refine Fork.same ?_; (first | refine fkD ?_ ?_ | refine fkN ?_ ?_ | refine fkM ?_ ?_) <;> intro h))
    refine MvQ.frz 11 1 rfl rfl (Nat.le_refl _) ?_
    (repeat' first | (refine Owe.same ?_; first | refine Owe.o ?_ | refine Owe.mk ?_ ?_) | (refine Fork.same ?_; (first | refine fkD ?_ ?_ | refine fkN ?_ ?_ | refine fkM ?_ ?_) <;> intro h))
    refine MvQ.stay ?_
    have c21o := C21 (l := ol) (by omega)
    have cF := C24 (w := w) ⟨hFx, hRo⟩
    have cV := C25 (w := w) (m := (wl.length : Int)) ⟨hFx, hR, by omega, by omega⟩
    have cN := C24 (w := w) ⟨hFx, hR⟩
    obtain ⟨F, hF⟩ : ∃ F, F = vtR B b ol 0 := ⟨_, rfl⟩
    obtain ⟨V, hV⟩ : ∃ V, V = vtR B b l (wl.length : Int) := ⟨_, rfl⟩
    obtain ⟨N, hN⟩ : ∃ N, N = vtR B b l 0 := ⟨_, rfl⟩
    rw [← hF] at cF q4 q5 q6 q7
    rw [← hV] at cV q6 q7
    rw [← hN] at cN q8
    rw [if_neg (by omega)] at cF cV
    have c22f := C22 (a := F.1) (p := wp)
    rw [decide_eq_true q5] at c22f
    have c26 := C26 (a := F.1) (b := V.1)
    rw [q6] at c26
    have cA := C27 (w := w) ⟨hFx, hR⟩
    obtain ⟨al, hal⟩ : ∃ al, al = anL B b l l.length := ⟨_, rfl⟩
    have a1 : al.length = l.length := by rw [hal]; exact accL_len _ _
    have ag : ∀ k, k < l.length → al.getD k 0 = ansB B b 2 0 1 (l.getD k fxr0) := fun k hk => by
      rw [hal, anL, accL, List.getD_eq_getElem?_getD, List.getElem?_map, List.getElem?_range hk]; rfl
    have a2 : ∀ k, k < l.length → al.getD k 0 = 0 → (k : Int) ∈ wl := fun k hk h => q9 k hk (by rw [← ag k hk]; exact h)
    have a3 : ∀ k, k < l.length → al.getD k 0 = 2 → ¬ (k : Int) ∈ wl := fun k hk h => q10 k hk (by rw [← ag k hk]; exact h)
    rw [← hal] at cA
    obtain ⟨m, hm⟩ : ∃ m, l.length = m + 1 := ⟨l.length - 1, by omega⟩
    have c21t := C21t (l := l) (m := m) ⟨by omega, hm⟩
    have hRt : RdsOk B.length (l.take m) := ⟨by rw [List.length_take]; omega, fun i hi => by
      rw [List.length_take] at hi
      rw [getD_take' (by omega)]; exact hR.ok i (by omega)⟩
    have c19t := C19 (w := w) ⟨hFx, hRt⟩
    have q11' := q11 m hm
    obtain ⟨fw, hfw⟩ : ∃ fw, fw = wrR B b (l.take m) := ⟨_, rfl⟩
    rw [← hfw] at c19t q11'
    by_cases hone : wl.length = 1
    · rw [if_pos (q8 hone)] at cN
      (repeat' first | (refine Owe.same ?_; first | refine Owe.o ?_ | refine Owe.mk ?_ ?_) | (refine Fork.same ?_; (first | refine fkY ?_ | refine fkF ?_ | ((first | refine fkD ?_ ?_ | refine fkN ?_ ?_ | refine fkM ?_ ?_) <;> (intro h; try (exfalso; omega))))) | ((first | refine OpsL.same ?_ | refine OpsDL.same ?_); first | refine oK c20 rfl rfl rfl ?_ | refine oK c21 rfl rfl rfl ?_ | refine oK c21o rfl rfl rfl ?_ | refine oK cF rfl rfl rfl ?_ | refine oK cV rfl rfl rfl ?_ | refine oK c22f rfl rfl rfl ?_ | refine oK c26 rfl rfl rfl ?_ | refine oK cN rfl rfl rfl ?_ | refine oK cA rfl rfl rfl ?_) | refine MvQ.stay ?_)
      refine Sat.lp0 (fun k : Nat => [(24, vi .i64 k), (22, .c (ints al)), (8, .c (ints wl)), (7, .c (rds l)), (3, .c (.rp (nfD w B))), (4, .c (.rp (bxD b)))]) (fun k => k ≤ l.length) (fun k => l.length - k) 0 (Nat.zero_le _) (by ((first | refine qen ?_ | refine qvs ?_ | refine qeq ?_ | refine qst ?_ | refine qv ?_ | refine qc ?_ | refine qe ?_ | refine qcs ?_ | skip); (repeat' first | exact rfl | (refine qS ?_; constructor)))) ?_
      intro k hk
      have c23 := C23 (l := wl) (n := (k : Int)) (by omega)
      refine Fork.dec (fun hlt => ?_) (fun hlt => ?_)
      · have hlt : k < l.length := by omega
        by_cases hm : (k : Int) ∈ wl
        · rw [decide_eq_true hm] at c23
          have hq : ¬ al.getD (k : Int).toNat 0 = 2 := fun h => a3 k hlt h hm
          (repeat' first | (refine Owe.same ?_; first | refine Owe.o ?_ | refine Owe.mk ?_ ?_) | (refine Fork.same ?_; (first | refine fkY ?_ | refine fkF ?_ | ((first | refine fkD ?_ ?_ | refine fkN ?_ ?_ | refine fkM ?_ ?_) <;> (intro h; try (exfalso; omega))))) | ((first | refine OpsL.same ?_ | refine OpsDL.same ?_); first | refine oK c23 rfl rfl rfl ?_) | refine MvQ.stay ?_)
          all_goals exact again0 (k + 1) hlt (by omega) (by ((first | refine qen ?_ | refine qvs ?_ | refine qeq ?_ | refine qst ?_ | refine qv ?_ | refine qc ?_ | refine qe ?_ | refine qcs ?_ | skip); (repeat' first | exact rfl | (refine qS ?_; constructor))))
        · rw [decide_eq_false hm] at c23
          have hq : ¬ al.getD (k : Int).toNat 0 = 0 := fun h => hm (a2 k hlt h)
          (repeat' first | (refine Owe.same ?_; first | refine Owe.o ?_ | refine Owe.mk ?_ ?_) | (refine Fork.same ?_; (first | refine fkY ?_ | refine fkF ?_ | ((first | refine fkD ?_ ?_ | refine fkN ?_ ?_ | refine fkM ?_ ?_) <;> (intro h; try (exfalso; omega))))) | ((first | refine OpsL.same ?_ | refine OpsDL.same ?_); first | refine oK c23 rfl rfl rfl ?_) | refine MvQ.stay ?_)
          all_goals exact again0 (k + 1) hlt (by omega) (by ((first | refine qen ?_ | refine qvs ?_ | refine qeq ?_ | refine qst ?_ | refine qv ?_ | refine qc ?_ | refine qe ?_ | refine qcs ?_ | skip); (repeat' first | exact rfl | (refine qS ?_; constructor))))
      · have : k = l.length := by omega
        subst this
        (repeat' first | (refine Owe.same ?_; first | refine Owe.o ?_ | refine Owe.mk ?_ ?_) | (refine Fork.same ?_; (first | refine fkY ?_ | refine fkF ?_ | ((first | refine fkD ?_ ?_ | refine fkN ?_ ?_ | refine fkM ?_ ?_) <;> (intro h; try (exfalso; omega))))) | ((first | refine OpsL.same ?_ | refine OpsDL.same ?_); first | refine oK c20 rfl rfl rfl ?_ | refine oK c21t rfl rfl rfl ?_ | refine oK c19t rfl rfl rfl ?_) | refine MvQ.stay ?_)
        (refine rqK rfl ?_; (repeat' first | exact rfl | (refine qS ?_; constructor)))
        exact decide_eq_true (by omega)
    · (repeat' first | (refine Owe.same ?_; first | refine Owe.o ?_ | refine Owe.mk ?_ ?_) | (refine Fork.same ?_; (first | refine fkY ?_ | refine fkF ?_ | ((first | refine fkD ?_ ?_ | refine fkN ?_ ?_ | refine fkM ?_ ?_) <;> (intro h; try (exfalso; omega))))) | ((first | refine OpsL.same ?_ | refine OpsDL.same ?_); first | refine oK c20 rfl rfl rfl ?_ | refine oK c21 rfl rfl rfl ?_ | refine oK c21o rfl rfl rfl ?_ | refine oK cF rfl rfl rfl ?_ | refine oK cV rfl rfl rfl ?_ | refine oK c22f rfl rfl rfl ?_ | refine oK c26 rfl rfl rfl ?_ | refine oK cA rfl rfl rfl ?_) | refine MvQ.stay ?_)
      refine Sat.lp0 (fun k : Nat => [(24, vi .i64 k), (22, .c (ints al)), (8, .c (ints wl)), (7, .c (rds l)), (3, .c (.rp (nfD w B))), (4, .c (.rp (bxD b)))]) (fun k => k ≤ l.length) (fun k => l.length - k) 0 (Nat.zero_le _) (by ((first | refine qen ?_ | refine qvs ?_ | refine qeq ?_ | refine qst ?_ | refine qv ?_ | refine qc ?_ | refine qe ?_ | refine qcs ?_ | skip); (repeat' first | exact rfl | (refine qS ?_; constructor)))) ?_
      intro k hk
      have c23 := C23 (l := wl) (n := (k : Int)) (by omega)
      refine Fork.dec (fun hlt => ?_) (fun hlt => ?_)
      · have hlt : k < l.length := by omega
        by_cases hm : (k : Int) ∈ wl
        · rw [decide_eq_true hm] at c23
          have hq : ¬ al.getD (k : Int).toNat 0 = 2 := fun h => a3 k hlt h hm
          (repeat' first | (refine Owe.same ?_; first | refine Owe.o ?_ | refine Owe.mk ?_ ?_) | (refine Fork.same ?_; (first | refine fkY ?_ | refine fkF ?_ | ((first | refine fkD ?_ ?_ | refine fkN ?_ ?_ | refine fkM ?_ ?_) <;> (intro h; try (exfalso; omega))))) | ((first | refine OpsL.same ?_ | refine OpsDL.same ?_); first | refine oK c23 rfl rfl rfl ?_) | refine MvQ.stay ?_)
          all_goals exact again0 (k + 1) hlt (by omega) (by ((first | refine qen ?_ | refine qvs ?_ | refine qeq ?_ | refine qst ?_ | refine qv ?_ | refine qc ?_ | refine qe ?_ | refine qcs ?_ | skip); (repeat' first | exact rfl | (refine qS ?_; constructor))))
        · rw [decide_eq_false hm] at c23
          have hq : ¬ al.getD (k : Int).toNat 0 = 0 := fun h => hm (a2 k hlt h)
          (repeat' first | (refine Owe.same ?_; first | refine Owe.o ?_ | refine Owe.mk ?_ ?_) | (refine Fork.same ?_; (first | refine fkY ?_ | refine fkF ?_ | ((first | refine fkD ?_ ?_ | refine fkN ?_ ?_ | refine fkM ?_ ?_) <;> (intro h; try (exfalso; omega))))) | ((first | refine OpsL.same ?_ | refine OpsDL.same ?_); first | refine oK c23 rfl rfl rfl ?_) | refine MvQ.stay ?_)
          all_goals exact again0 (k + 1) hlt (by omega) (by ((first | refine qen ?_ | refine qvs ?_ | refine qeq ?_ | refine qst ?_ | refine qv ?_ | refine qc ?_ | refine qe ?_ | refine qcs ?_ | skip); (repeat' first | exact rfl | (refine qS ?_; constructor))))
      · have : k = l.length := by omega
        subst this
        (repeat' first | (refine Owe.same ?_; first | refine Owe.o ?_ | refine Owe.mk ?_ ?_) | (refine Fork.same ?_; (first | refine fkY ?_ | refine fkF ?_ | ((first | refine fkD ?_ ?_ | refine fkN ?_ ?_ | refine fkM ?_ ?_) <;> (intro h; try (exfalso; omega))))) | ((first | refine OpsL.same ?_ | refine OpsDL.same ?_); first | refine oK c20 rfl rfl rfl ?_ | refine oK c21t rfl rfl rfl ?_ | refine oK c19t rfl rfl rfl ?_) | refine MvQ.stay ?_)
        (refine rqK rfl ?_; (repeat' first | exact rfl | (refine qS ?_; constructor)))
        exact decide_eq_true (by omega)
theorem C4 {w b : FxB} {B : List FxN} {l : List FxR} {p0 : FxP} : ((∀ i, i < B.length → (B.getD i fxn0).1.size ≤ 9223372036854775807) ∧ B.length ≤ 9223372036854775807 ∧ l.length ≤ 9223372036854775807) →
    PFD Try.prog 4 [nfv w B, bxv b, .agg [rds l, int p0.1, int p0.2.1, int p0.2.2]] (vbl true) := fun h => by
  by_cases hc : B.length ≤ 6 ∧ (1 ≤ l.length ∧ l.length ≤ 7) ∧ bxE5 w B b = 0 ∧ rgE5 w B l = 0 ∧ ¬ lrgB b ∧ (b.1.2 - b.1.1 + 1) * (b.2.1.2 - b.2.1.1 + 1) * (b.2.2.2 - b.2.2.1 + 1) ≤ 700
  · exact C4b ⟨h.1, hc⟩
  · exact C4a h hc
end Go.Pw
set_option linter.unusedVariables false
namespace Go.Pw
open Go Go.RowKit Go.Proofs
abbrev iSh : Sh := .int .i64
abbrev ntSh : List Sh := [iSh, iSh, iSh, iSh, iSh, iSh, .sl [.str, iSh, iSh, iSh]]
abbrev b6Sh : List Sh := [iSh, iSh, iSh, iSh, iSh, iSh]
abbrev rgSh : List Sh := [.sl [iSh, iSh, iSh, iSh], iSh, iSh, iSh]
theorem okI {d : D} (h : OkD iSh d) : ∃ n : Int, d = dI n := by
  obtain ⟨n, rfl, _⟩ := okD_int h
  exact ⟨n, rfl⟩
theorem rowBn {ds : List D} (h : OkDs [.str, iSh, iSh, iSh] ds) : ∃ b : FxN, ds = bnD b ∧ b.1.size ≤ maxLen := by
  obtain ⟨d1, e1, rfl, a1, k1⟩ := okDs_cons h
  obtain ⟨d2, e2, rfl, a2, k2⟩ := okDs_cons k1
  obtain ⟨d3, e3, rfl, a3, k3⟩ := okDs_cons k2
  obtain ⟨d4, e4, rfl, a4, k4⟩ := okDs_cons k3
  rw [okDs_nil k4]
  obtain ⟨s, rfl, hs⟩ := okD_str a1
  obtain ⟨n2, rfl⟩ := okI a2
  obtain ⟨n3, rfl⟩ := okI a3
  obtain ⟨n4, rfl⟩ := okI a4
  exact ⟨(s, n2, n3, n4), rfl, hs⟩
theorem rowRd {ds : List D} (h : OkDs [iSh, iSh, iSh, iSh] ds) : ∃ r : FxR, ds = rdD r ∧ True := by
  obtain ⟨d1, e1, rfl, a1, k1⟩ := okDs_cons h
  obtain ⟨d2, e2, rfl, a2, k2⟩ := okDs_cons k1
  obtain ⟨d3, e3, rfl, a3, k3⟩ := okDs_cons k2
  obtain ⟨d4, e4, rfl, a4, k4⟩ := okDs_cons k3
  rw [okDs_nil k4]
  obtain ⟨n1, rfl⟩ := okI a1
  obtain ⟨n2, rfl⟩ := okI a2
  obtain ⟨n3, rfl⟩ := okI a3
  obtain ⟨n4, rfl⟩ := okI a4
  exact ⟨(n1, n2, n3, n4), rfl, trivial⟩
theorem arg_net5 {v : V} (h : Arg true ntSh v) : ∃ (w : FxB) (B : List FxN), RI v (nfv w B) ∧ B.length ≤ maxLen ∧ ∀ b ∈ B, b.1.size ≤ maxLen := by
  obtain ⟨ds, rfl, h1⟩ := arg_agg h
  obtain ⟨d1, e1, rfl, a1, k1⟩ := okDs_cons h1
  obtain ⟨d2, e2, rfl, a2, k2⟩ := okDs_cons k1
  obtain ⟨d3, e3, rfl, a3, k3⟩ := okDs_cons k2
  obtain ⟨d4, e4, rfl, a4, k4⟩ := okDs_cons k3
  obtain ⟨d5, e5, rfl, a5, k5⟩ := okDs_cons k4
  obtain ⟨d6, e6, rfl, a6, k6⟩ := okDs_cons k5
  obtain ⟨d7, e7, rfl, a7, k7⟩ := okDs_cons k6
  rw [okDs_nil k7]
  obtain ⟨n1, rfl⟩ := okI a1
  obtain ⟨n2, rfl⟩ := okI a2
  obtain ⟨n3, rfl⟩ := okI a3
  obtain ⟨n4, rfl⟩ := okI a4
  obtain ⟨n5, rfl⟩ := okI a5
  obtain ⟨n6, rfl⟩ := okI a6
  obtain ⟨l, h8, h9⟩ := okD_list fxn0 (fun ds => rowBn) a7
  refine ⟨((n1, n2), (n3, n4), (n5, n6)), l, VEq.ri (.agg _ _ rfl fun i x y hx hy => ?_), h9⟩
  match i with
  | 0 => simp at hx hy; subst hx; subst hy; exact .refl _
  | 1 => simp at hx hy; subst hx; subst hy; exact .refl _
  | 2 => simp at hx hy; subst hx; subst hy; exact .refl _
  | 3 => simp at hx hy; subst hx; subst hy; exact .refl _
  | 4 => simp at hx hy; subst hx; subst hy; exact .refl _
  | 5 => simp at hx hy; subst hx; subst hy; exact .refl _
  | 6 => simp at hx hy; subst hx; subst hy; exact h8
  | i + 7 => simp at hx
theorem arg_box5 {v : V} (h : Arg true b6Sh v) : ∃ b : FxB, v = bxv b := by
  obtain ⟨ds, rfl, h1⟩ := arg_agg h
  obtain ⟨d1, e1, rfl, a1, k1⟩ := okDs_cons h1
  obtain ⟨d2, e2, rfl, a2, k2⟩ := okDs_cons k1
  obtain ⟨d3, e3, rfl, a3, k3⟩ := okDs_cons k2
  obtain ⟨d4, e4, rfl, a4, k4⟩ := okDs_cons k3
  obtain ⟨d5, e5, rfl, a5, k5⟩ := okDs_cons k4
  obtain ⟨d6, e6, rfl, a6, k6⟩ := okDs_cons k5
  rw [okDs_nil k6]
  obtain ⟨n1, rfl⟩ := okI a1
  obtain ⟨n2, rfl⟩ := okI a2
  obtain ⟨n3, rfl⟩ := okI a3
  obtain ⟨n4, rfl⟩ := okI a4
  obtain ⟨n5, rfl⟩ := okI a5
  obtain ⟨n6, rfl⟩ := okI a6
  exact ⟨((n1, n2), (n3, n4), (n5, n6)), rfl⟩
theorem arg_rdg5 {v : V} (h : Arg true rgSh v) : ∃ (l : List FxR) (p : FxP), RI v (.agg [rds l, int p.1, int p.2.1, int p.2.2]) ∧ l.length ≤ maxLen := by
  obtain ⟨ds, rfl, h1⟩ := arg_agg h
  obtain ⟨d1, e1, rfl, a1, k1⟩ := okDs_cons h1
  obtain ⟨d2, e2, rfl, a2, k2⟩ := okDs_cons k1
  obtain ⟨d3, e3, rfl, a3, k3⟩ := okDs_cons k2
  obtain ⟨d4, e4, rfl, a4, k4⟩ := okDs_cons k3
  rw [okDs_nil k4]
  obtain ⟨l, h8, h9⟩ := okD_list fxr0 (fun ds => rowRd) a1
  obtain ⟨n2, rfl⟩ := okI a2
  obtain ⟨n3, rfl⟩ := okI a3
  obtain ⟨n4, rfl⟩ := okI a4
  refine ⟨l, (n2, n3, n4), VEq.ri (.agg _ _ rfl fun i x y hx hy => ?_), h9.1⟩
  match i with
  | 0 => simp at hx hy; subst hx; subst hy; exact h8
  | 1 => simp at hx hy; subst hx; subst hy; exact .refl _
  | 2 => simp at hx hy; subst hx; subst hy; exact .refl _
  | 3 => simp at hx hy; subst hx; subst hy; exact .refl _
  | i + 4 => simp at hx
theorem C4w {w b : FxB} {B : List FxN} {l : List FxR} {p0 : FxP} (q0 : B.length ≤ maxLen ∧ ∀ b ∈ B, b.1.size ≤ maxLen) (q2 : l.length ≤ maxLen) :
    PFD Try.prog 4 [nfv w B, bxv b, .agg [rds l, int p0.1, int p0.2.1, int p0.2.2]] (vbl true) := by
  have hm : maxLen ≤ 9223372036854775807 := by decide
  exact C4 ⟨fun i hi => Nat.le_trans (q0.2 _ (getD_mem fxn0 hi)) hm, Nat.le_trans q0.1 hm, Nat.le_trans q2 hm⟩
end Go.Pw
