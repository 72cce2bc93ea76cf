/- Steps toward the row of this claim: part 5 of 6. Proved as named below, on no condition but those that each theorem states. -/
import Derived.Test.YtailfkllanegeaaGreatDoorCableStringsD
import Derived.Test.YtailfkllanegeaaGreatDoorProg
import Derived.LoopNIn
import Derived.Test.YtailfkllanegeaaGreatDoorRows
import Derived.LaidMore
import Derived.OpenShut
import Derived.Lib.LaidTab
set_option linter.unusedSimpArgs false
set_option linter.unusedVariables false
set_option maxHeartbeats 1000000
namespace Go.Pw
open Go.RowKit Go.Lib
set_option maxRecDepth 2000
open Go Go.Proofs A1 A2 A3 A4
/-- Numbers by twos. -/
abbrev twF (v : List Int) (i : Nat) : Int × Int := (v.getD (2 * i) 0, v.getD (2 * i + 1) 0)
abbrev twos (v : List Int) : List (Int × Int) := accL (twF v) (v.length / 2)
def bxV (v : List Int) : List (Int × Int) × Int := if v.length % 2 ≠ 0 then ([], 7) else if ∀ i, i < v.length / 2 → (twF v i).1 ≤ (twF v i).2 then (twos v, 0) else ([], 9)
def bxE (s : By) : List (Int × Int) × Int := if 60000 < s.length then ([], 8) else if s = [] then ([], 0) else match pvS 2 s with
  | none => ([], 7)
  | some v => bxV v
theorem C17 {s : By} : s.length ≤ 100000 → PFD Tryz.prog 17 [sv s] (.tup [.c (prs (bxE s).1), vi .i64 (bxE s).2]) := fun hs => by
  have hz : (bs s).size = s.length := bs_size s
  by_cases hb : 60000 < s.length
  · rw [show bxE s = ([], 8) by unfold bxE; rw [if_pos hb]]
    refine pi2 fn17 ?_
    (repeat' first | (refine Owe.same ?_; first | refine Owe.o ?_ | refine Owe.mk ?_ ?_) | (refine Fork.same ?_; (first | refine fkD ?_ ?_ | refine fkN ?_ ?_ | refine fkM ?_ ?_) <;> (intro h; try (exfalso; omega))) | refine MvQ.stay ?_)
    (refine rqK rfl ?_; (repeat' first | exact rfl | (refine qS ?_; constructor)))
  by_cases h0 : s = []
  · rw [show bxE s = ([], 0) by unfold bxE; rw [if_neg hb, if_pos h0]]
    subst h0
    refine pi2 fn17 ?_
    (repeat' first | (refine Owe.same ?_; first | refine Owe.o ?_ | refine Owe.mk ?_ ?_) | (refine Fork.same ?_; (first | refine fkD ?_ ?_ | refine fkN ?_ ?_ | refine fkM ?_ ?_) <;> (intro h; try (exfalso; omega))) | refine MvQ.stay ?_)
    · (refine rqK rfl ?_; (repeat' first | exact rfl | (refine qS ?_; constructor)))
    · rename_i h; exact absurd rfl h
  have hne : ¬ (bs s).data.toList = (ByteArray.mk #[]).data.toList := fun h => h0 (by simpa [bs] using h)
  cases hv : pvS 2 s with
  | none =>
    rw [show bxE s = ([], 7) by unfold bxE; rw [if_neg hb, if_neg h0, hv]]
    have h51 := C102n hv hs (by decide)
    refine pi2 fn17 ?_
    (repeat' first | (refine Owe.same ?_; first | refine Owe.o ?_ | refine Owe.mk ?_ ?_) | (refine Fork.same ?_; (first | refine fkY ?_ | refine fkF ?_ | ((first | refine fkD ?_ ?_ | refine fkN ?_ ?_ | refine fkM ?_ ?_) <;> (intro h; try (exfalso; omega))))) | ((first | refine OpsL.same ?_ | refine OpsDL.same ?_); first | refine oK h51 rfl rfl rfl ?_) | refine MvQ.stay ?_)
    (refine rqK rfl ?_; (repeat' first | exact rfl | (refine qS ?_; constructor)))
  | some v =>
    rw [show bxE s = bxV v by unfold bxE; rw [if_neg hb, if_neg h0, hv]]
    have h51 := C102y hv hs (by decide)
    have hvl : v.length ≤ 100001 := by
      have h1 := pvL_len hv
      have h2 := cut_count (c := 32) (l := s) (acc := [])
      omega
    have hv := Hd.mk hv
    by_cases h2 : v.length % 2 ≠ 0
    · rw [show bxV v = ([], 7) by unfold bxV; rw [if_pos h2]]
      have htm : (v.length : Int).tmod 2 = ((v.length % 2 : Nat) : Int) := rfl
      refine pi2 fn17 ?_
      (repeat' first | (refine Owe.same ?_; first | refine Owe.o ?_ | refine Owe.mk ?_ ?_) | (refine Fork.same ?_; (first | refine fkY ?_ | refine fkF ?_ | ((first | refine fkD ?_ ?_ | refine fkN ?_ ?_ | refine fkM ?_ ?_) <;> (intro h; try (exfalso; omega))))) | ((first | refine OpsL.same ?_ | refine OpsDL.same ?_); first | refine oK h51 rfl rfl rfl ?_) | refine MvQ.stay ?_)
      (refine rqK rfl ?_; (repeat' first | exact rfl | (refine qS ?_; constructor)))
    · have htm : (v.length : Int).tmod 2 = ((v.length % 2 : Nat) : Int) := rfl
      refine pi2 fn17 ?_
      (repeat' first | (refine Owe.same ?_; first | refine Owe.o ?_ | refine Owe.mk ?_ ?_) | (refine Fork.same ?_; (first | refine fkY ?_ | refine fkF ?_ | ((first | refine fkD ?_ ?_ | refine fkN ?_ ?_ | refine fkM ?_ ?_) <;> (intro h; try (exfalso; omega))))) | ((first | refine OpsL.same ?_ | refine OpsDL.same ?_); first | refine oK h51 rfl rfl rfl ?_) | refine MvQ.stay ?_)
      refine Sat.nilS 6 82 2 (fun i => r2 (([] : List (Int × Int)).getD i (0, 0))) rfl ?_
      refine Sat.lp (fun k : Nat => ⟨[(4, .c (ints v)), (6, .c (.ms 0 (accL (twF v) k).length)), (7, vi .i64 (2 * (k : Int)))], [(0, rowv 82 2 r2 (0, 0) (accL (twF v) k))], 1⟩)
        (fun k => k ≤ v.length / 2 ∧ ∀ i, i < k → (twF v i).1 ≤ (twF v i).2) (fun k => v.length / 2 - k) 0 [0] ⟨Nat.zero_le _, fun i h => absurd h (Nat.not_lt_zero _)⟩ ?_ ?_
      · (refine qis ?_ ?_ <;> (repeat' first | exact rfl | (refine qS ?_; constructor)))
      · rintro k ⟨hk, ho⟩
        have hal := accL_len (twF v) k
        refine Fork.dec (fun hlt => ?_) (fun hlt => ?_)
        · have hlt : k < v.length / 2 := by have : 2 * (k : Int) < v.length := hlt; omega
          have e1 : (2 * (k : Int)).toNat = 2 * k := by omega
          have e2 : (2 * (k : Int) + 1).toNat = 2 * k + 1 := by omega
          by_cases hg : (v.getD (2 * (k : Int)).toNat 0) > (v.getD (2 * (k : Int) + 1).toNat 0)
          · rw [show bxV v = ([], 9) by
              unfold bxV; rw [if_neg h2, if_neg]
              intro h
              have := h k hlt
              rw [e1, e2] at hg
              simp only [twF] at this; omega]
            (repeat' first | (refine Owe.same ?_; first | refine Owe.o ?_ | refine Owe.mk ?_ ?_) | (refine Fork.same ?_; (first | refine fkD ?_ ?_ | refine fkN ?_ ?_ | refine fkM ?_ ?_) <;> (intro h; try (exfalso; omega))) | refine MvQ.stay ?_)
            (refine rqK rfl ?_; (repeat' first | exact rfl | (refine qS ?_; constructor)))
          · (repeat' first | (refine Owe.same ?_; first | refine Owe.o ?_ | refine Owe.mk ?_ ?_) | (refine Fork.same ?_; (first | refine fkD ?_ ?_ | refine fkN ?_ ?_ | refine fkM ?_ ?_) <;> (intro h; try (exfalso; omega))) | refine MvQ.stay ?_)
            refine again (k + 1) [23] ⟨hlt, fun i hi => ?_⟩ (by omega) ?_
            · rcases Nat.lt_succ_iff_lt_or_eq.1 hi with h3 | rfl
              · exact ho i h3
              · rw [e1, e2] at hg; show v.getD (2 * i) 0 ≤ v.getD (2 * i + 1) 0; omega
            · (refine qis ?_ ?_ <;> (repeat' first | exact rfl | (refine qS ?_; constructor)))
              · rw [accL_len, accL_len]; rfl
              · rw [e1, e2]; exact accL_succ _ k
        · have hk1 : k = v.length / 2 := by have : ¬ 2 * (k : Int) < v.length := hlt; omega
          rw [hk1] at ho
          rw [show bxV v = (twos v, 0) by unfold bxV; rw [if_neg h2, if_pos ho], hk1]
          (repeat' first | (refine Owe.same ?_; first | refine Owe.o ?_ | refine Owe.mk ?_ ?_) | (refine Fork.same ?_; (first | refine fkD ?_ ?_ | refine fkN ?_ ?_ | refine fkM ?_ ?_) <;> intro h))
          refine MvQ.frz 6 _ rfl rfl (Nat.le_refl _) ?_
          (repeat' first | (refine Owe.same ?_; first | refine Owe.o ?_ | refine Owe.mk ?_ ?_) | (refine Fork.same ?_; (first | refine fkD ?_ ?_ | refine fkN ?_ ?_ | refine fkM ?_ ?_) <;> intro h) | refine MvQ.stay ?_)
          (refine rqK rfl ?_; (repeat' first | exact rfl | (refine qS ?_; constructor)))
end Go.Pw

set_option linter.unusedSimpArgs false
set_option linter.unusedVariables false
set_option maxHeartbeats 1000000
namespace Go.Pw
open Go.RowKit Go.Lib
set_option maxRecDepth 2000
open Go Go.Proofs A1 A2 A3 A4
theorem dec_len_le : ∀ (k u : Nat), u < 10 ^ (k + 1) → (decDigits u).length ≤ k + 1
  | 0, u, h => by rw [decDigits_one (by simpa using h)]; simp
  | k + 1, u, h => by
    by_cases h1 : u < 10
    · rw [decDigits_one h1]; simp
    · rw [dec_big h1, List.length_append]
      have := dec_len_le k (u / 10) (by rw [Nat.pow_succ] at h; omega)
      simp; omega
theorem numV_d {n : Int} (k : Nat) {d : Int} (hd : d ≤ 18) (hk : ((k + 1 : Nat) : Int) ≤ d) (h : n.natAbs < 10 ^ (k + 1)) : numV (itoa n) d = some n := (numV_iff hd).2 ⟨rfl, by have := dec_len_le k _ h; omega⟩
theorem numV5 {n : Int} (h : -99999 ≤ n ∧ n ≤ 99999) : numV (itoa n) 5 = some n := numV_d 4 (by decide) (by decide) (show n.natAbs < 100000 by omega)
theorem numV2 {n : Int} (h : -99 ≤ n ∧ n ≤ 99) : numV (itoa n) 2 = some n := numV_d 1 (by decide) (by decide) (show n.natAbs < 100 by omega)
theorem pvL_wd {d : Int} : ∀ {l : List Int}, (∀ n ∈ l, numV (itoa n) d = some n) → pvL d (wdL l) = some l
  | [], _ => rfl
  | x :: l, h => by
    show pvL d (itoa x :: wdL l) = _
    rw [pvL, h x (by simp), pvL_wd (l := l) (fun n hn => h n (List.mem_cons_of_mem _ hn))]
theorem no32 (n : Int) : (32 : UInt8) ∉ itoa n := itoa_no (by decide)
theorem no59 (n : Int) : (59 : UInt8) ∉ itoa n := itoa_no (by decide)
theorem cut_wd {l : List Int} (h : l ≠ []) : cutG 32 [] (wdS l) = wdL l := cut_jn (by simpa using h) (fun x hx => by
  obtain ⟨n, _, rfl⟩ := List.mem_map.1 hx
  exact no32 n)
theorem pvS_wd {d : Int} {l : List Int} (hne : l ≠ []) (h : ∀ n ∈ l, numV (itoa n) d = some n) : pvS d (wdS l) = some l := by
  show pvL d (cutG 32 [] (wdS l)) = _
  rw [cut_wd hne]; exact pvL_wd h
theorem jn_no {c d : UInt8} (hcd : c ≠ d) : ∀ {l : List By}, (∀ x ∈ l, d ∉ x) → d ∉ jnG c l
  | [], _ => by simp [jnG]
  | [x], h => h x (by simp)
  | x :: y :: r, h => by
    rw [jn_cons (by simp), List.mem_append, List.mem_cons]
    intro hh
    rcases hh with h1 | h1 | h1
    · exact h x (by simp) h1
    · exact hcd h1.symm
    · exact jn_no hcd (fun z hz => h z (List.mem_cons_of_mem _ hz)) h1
theorem wd_no59 (l : List Int) : (59 : UInt8) ∉ wdS l := jn_no (by decide) (fun x hx => by
  obtain ⟨n, _, rfl⟩ := List.mem_map.1 hx
  exact no59 n)
theorem alL_map {α : Type} {f : By → Option α} {g : α → By} : ∀ {l : List α}, (∀ x ∈ l, f (g x) = some x) → alL f (l.map g) = some l
  | [], _ => rfl
  | x :: l, h => by
    rw [List.map_cons, alL, h x (by simp), alL_map (fun y hy => h y (List.mem_cons_of_mem _ hy))]
theorem lkP_W {k : Lk} (h : lkOk k) : lkP (dvW k) = some k := by
  obtain ⟨a, b, c⟩ := k
  have h : (1 ≤ a ∧ a ≤ 1000) ∧ (-1000 ≤ b ∧ b ≤ 1000) ∧ 0 ≤ c ∧ c ≤ 20 := h
  have hn : pvS 5 (wdS [a, b, c]) = some [a, b, c] := pvS_wd (by simp) (fun n hn => numV5 (by
    simp only [List.mem_cons, List.not_mem_nil, or_false] at hn
    rcases hn with rfl | rfl | rfl <;> omega))
  show lkP (wdS [a, b, c]) = _
  unfold lkP; rw [hn]
  exact if_pos ⟨by omega, by omega⟩
theorem hdP_W {a b : Int} (h : (-10000 ≤ a ∧ a ≤ 10000) ∧ -10000 ≤ b ∧ b ≤ 10000) : hdP (wdS [a, b]) = some (a, b) := by
  have hn : pvS 5 (wdS [a, b]) = some [a, b] := pvS_wd (by simp) (fun n hn => numV5 (by
    simp only [List.mem_cons, List.not_mem_nil, or_false] at hn
    rcases hn with rfl | rfl <;> omega))
  unfold hdP; rw [hn]
/-- A valid line, written and read again. -/
theorem plE_S {x z : Int} {l : List Lk} (h : (lineE x z l).2 = 0) (hs : (lnS x z l).length ≤ 60000) : plE (lnS x z l) = ((x, z, l), 0) := by
  have hO := lineE_ok.1 h
  have hc : cutG 59 [] (lnS x z l) = wdS [x, z] :: l.map dvW := cut_jn (by simp) (fun y hy => by
    rcases List.mem_cons.1 hy with rfl | hy
    · exact wd_no59 _
    · obtain ⟨d, _, rfl⟩ := List.mem_map.1 hy; exact wd_no59 _)
  rw [plE_of (by omega) hc, plV_y (hdP_W ⟨hO.x, hO.z⟩) (alL_map fun k hk => lkP_W (hO.l k hk)), if_pos h]
theorem fl2_get : ∀ (b : List Rg) (i : Nat), i < b.length → (fl2 b).getD (2 * i) 0 = (b.getD i (0, 0)).1 ∧ (fl2 b).getD (2 * i + 1) 0 = (b.getD i (0, 0)).2
  | [], i, h => absurd h (Nat.not_lt_zero _)
  | r :: b, 0, _ => ⟨rfl, rfl⟩
  | r :: b, i + 1, h => by
    have := fl2_get b i (by simpa using h)
    have e1 : 2 * (i + 1) = 2 * i + 1 + 1 := by omega
    rw [e1]
    exact this
theorem twos_fl2 (b : List Rg) : twos (fl2 b) = b := by
  have hl := fl2_len b
  have h2 : (fl2 b).length / 2 = b.length := by omega
  show accL (twF (fl2 b)) ((fl2 b).length / 2) = b
  rw [h2]
  refine ext_getD (0, 0) (by rw [accL_len]) fun i hi => ?_
  rw [accL_len] at hi
  have := fl2_get b i hi
  rw [accL_get _ hi]
  exact Prod.ext this.1 this.2
/-- A valid box, written and read again. -/
theorem bxE_S {n : Nat} {b : List Rg} (h : (boxE n b).2 = 0) (hs : (bxS b).length ≤ 60000) : bxE (bxS b) = (b, 0) := by
  have hO : ∀ r ∈ b, curOk r.1 ∧ curOk r.2 ∧ r.1 ≤ r.2 := fun r hr => by
    unfold boxE at h
    split at h
    · rw [eachE_ok] at h
      have := h r hr
      rw [rgErr, fstE_ok] at this
      simp only [List.mem_cons, List.not_mem_nil, or_false, forall_eq_or_imp, forall_eq, unl, unb_ok (show (2 : Int) ≠ 0 by decide), unb_ok (show (9 : Int) ≠ 0 by decide), decide_eq_true_eq] at this
      exact ⟨this.1.1, this.1.2, this.2⟩
    · cases h
  by_cases hb : b = []
  · subst hb; rfl
  have hne : fl2 b ≠ [] := fun e => by
    have := fl2_len b
    rw [e] at this
    have h0 : ([] : List Int).length = 0 := rfl
    exact hb (List.length_eq_zero_iff.1 (by omega))
  have hp : pvS 2 (bxS b) = some (fl2 b) := pvS_wd hne (fun n hn => numV2 (by
    obtain ⟨r, hr, hh⟩ := fl2_mem hn
    have := hO r hr
    simp only [curOk] at this
    rcases hh with rfl | rfl <;> omega))
  have hn0 : bxS b ≠ [] := fun e => by
    rw [e] at hp
    have h1 : pvS 2 ([] : By) = none := by decide
    rw [h1] at hp; cases hp
  have hl := fl2_len b
  have h2 : (fl2 b).length / 2 = b.length := by omega
  have hv : bxV (fl2 b) = (twos (fl2 b), 0) := by
    unfold bxV
    rw [if_neg (by omega), if_pos]
    intro i hi
    have := fl2_get b i (by omega)
    show (fl2 b).getD (2 * i) 0 ≤ (fl2 b).getD (2 * i + 1) 0
    rw [this.1, this.2]
    exact (hO _ (getD_mem (0, 0) (by omega))).2.2
  unfold bxE
  rw [if_neg (by omega), if_neg hn0, hp]
  show bxV (fl2 b) = _
  rw [hv, twos_fl2]
theorem alL_len {α : Type} {f : By → Option α} : ∀ {l : List By} {a : List α}, alL f l = some a → a.length = l.length
  | [], a, h => by cases h; rfl
  | x :: l, a, h => by
    rw [alL] at h
    split at h
    · rename_i n m hn hm
      cases h
      rw [List.length_cons, List.length_cons, alL_len hm]
    · cases h
theorem plE_len (s : By) : (plE s).1.2.2.length ≤ s.length + 1 := by
  have hc := cut_count (c := 59) (l := s) (acc := [])
  unfold plE
  split
  · simp
  · split
    · simp
    · rename_i h r hr
      rw [hr, List.length_cons] at hc
      unfold plV
      split
      · rename_i h1 h2
        have := alL_len h2
        split
        · simp only; omega
        · simp
      · simp
theorem bxE_len (s : By) : (bxE s).1.length ≤ s.length + 1 := by
  have hc := cut_count (c := 32) (l := s) (acc := [])
  unfold bxE
  split
  · simp
  · split
    · simp
    · split
      · simp
      · rename_i v hv
        have := pvL_len hv
        unfold bxV
        split
        · simp
        · split
          · simp only [twos, accL_len]; omega
          · simp
end Go.Pw

set_option linter.unusedSimpArgs false
set_option linter.unusedVariables false
namespace Go.Pw
open Go.RowKit Go.Lib
open Go
theorem trim_itoa (n : Int) : trimPrefix (itoa n) [45] = decDigits n.natAbs := by
  by_cases h : n < 0
  · rw [itoa_neg h, trimPrefix]
    have : hasPrefix (45 :: decDigits n.natAbs) [45] = true := by simp [hasPrefix]
    rw [if_pos this]; rfl
  · rw [itoa_nn (by omega), trimPrefix]
    have e : n.toNat = n.natAbs := by omega
    rw [e]
    have : hasPrefix (decDigits n.natAbs) [45] = false := by
      have h45 := head_n45 (u := n.natAbs)
      cases hd : decDigits n.natAbs with
      | nil => rfl
      | cons b r =>
        rw [hd] at h45
        have hb : b ≠ 45 := fun hb => h45 (by rw [hb]; rfl)
        simp [hasPrefix, List.isPrefixOf, Ne.symm hb]
    rw [if_neg (by rw [this]; decide)]
/-- The program's own test of a number. -/
theorem int_iff {s : By} {d n : Int} (hd : d ≤ 18) : (atoiAll s = .ok n ∧ itoa n = s ∧ ((trimPrefix s [45]).length : Int) ≤ d) ↔ numV s d = some n := by
  constructor
  · rintro ⟨h1, h2, h3⟩
    refine (numV_iff hd).2 ⟨h2.symm, ?_⟩
    rw [← h2, trim_itoa] at h3
    exact h3
  · intro h1
    have hi := (numV_i64 hd h1).1
    obtain ⟨h3, h4⟩ := (numV_iff hd).1 h1
    refine ⟨by rw [h3]; exact atoi_itoa hi, h3.symm, ?_⟩
    rw [h3, trim_itoa]; exact h4
end Go.Pw

set_option linter.unusedSimpArgs false
set_option linter.unusedVariables false
set_option maxRecDepth 20000
set_option maxHeartbeats 1000000
namespace Go.Pw
open Go Go.RowKit Go.Lib Go.Sort
open Go.Proofs
theorem RepL.four {Γ : Cx} {w : World} {a b c d : V} {us : Array Value} (h : RepL Γ w [a, b, c, d] us) : ∃ u v x y, us = #[u, v, x, y] ∧ RepV Γ w a u ∧ RepV Γ w b v ∧ RepV Γ w c x ∧ RepV Γ w d y := by
  obtain ⟨us⟩ := us
  have h1 := h.1
  match us, h1 with
  | [u, v, x, y], _ => exact ⟨u, v, x, y, rfl, h.2 0 _ _ rfl rfl, h.2 1 _ _ rfl rfl, h.2 2 _ _ rfl rfl, h.2 3 _ _ rfl rfl⟩
theorem split_bs {s : By} {c : UInt8} : splitB ⟨#[c]⟩ 0 (countB (bs s) ⟨#[c]⟩) (bs s) = (cutG c [] s).map bs := by
  have h := splitB_data ⟨#[c]⟩ 0 (countB (bs s) ⟨#[c]⟩) (bs s)
  have hc : countB (bs s) ⟨#[c]⟩ = s.count c := count_one c s
  have h2 : splitK [c] 0 (countB (bs s) ⟨#[c]⟩) s = cutG c [] s := split_cut _ s hc.symm
  have h3 : (splitB ⟨#[c]⟩ 0 (countB (bs s) ⟨#[c]⟩) (bs s)).map (·.data.toList) = cutG c [] s := h.trans h2
  rw [← h3, List.map_map]
  exact (List.map_id _).symm.trans (List.map_congr_left fun x _ => by simp [bs])
theorem split_sz {s : By} {c : UInt8} : countB (bs s) ⟨#[c]⟩ + 1 = (cutG c [] s).length := by
  have h := splitB_all ⟨#[c]⟩ (Nat.le_refl 1) 0 _ (bs s) rfl
  rw [split_bs, List.length_map] at h
  exact h.symm
theorem C185 {s : By} {c : UInt8} : s.length ≤ 1000000 → PFD Tryz.prog 185 [sv s, .c (.d (.v (.string ⟨#[c]⟩))), vi .i64 0, vi .i64 (-1)] (.c (sts (cutG c [] s))) := fun hs => by
  refine pfd_below Tryz.call185 fun Γ w us hst hr => ?_
  obtain ⟨u, v, x, y, rfl, hu, hv, hx, hy⟩ := hr.four
  cases hu.vv; cases hv.vv; cases hx.vv; cases hy.vv
  have hz : (bs s).size = s.length := bs_size s
  have hle := countB_le ⟨#[c]⟩ (Nat.le_refl 1) (bs s).size (bs s) (Nat.le_refl _)
  have h := Any.strings_genSplit_core sh_lays221 (by kernel_rfl) (bs s) ⟨#[c]⟩ 0 (-1) (countB (bs s) ⟨#[c]⟩ + 1) w (by omega) (Nat.le_refl 1) (Nat.zero_le _)
    (fun x cs hx => by
      refine (sh_strings_Index_one x c (w.alloc (.cells cs 9))).mono ?_
      rintro e w' ⟨rfl, rfl⟩
      exact ⟨by rw [← index_one], rfl⟩)
    (by
      refine (sh_strings_Count_one (bs s) c w).mono ?_
      rintro e w' ⟨rfl, rfl⟩
      refine ⟨?_, rfl⟩
      show _ = Ending.returned (Value.int .i64 ((Lib.count (bs s).data.toList [c] : Nat) : Int))
      rw [count_one]; rfl) (by decide) (by decide) (by rw [if_pos (by decide)]; omega)
  rw [Nat.add_sub_cancel, split_bs, List.length_map, split_sz] at h
  have e2 : Lib.cellsOf ((cutG c [] s).map bs) (cutG c [] s).length = (((cutG c [] s).map bs).map Value.string).toArray := by
    have := Lib.cellsOf_full ((cutG c [] s).map bs)
    rw [List.length_map] at this; exact this
  rw [e2] at h
  refine Calls.mono h ?_
  generalize cutG c [] s = L
  rintro e w' ⟨rfl, rfl⟩
  refine ⟨_, rfl, (Below.refl _ _).alloc (Nat.le_refl _) _, .c _ _ ?_⟩
  refine RepD.sl 1 L.length _ ⟨w.heap.size, 0, none⟩ L.length (fun i j => .string (bs (L.getD i []))) (Nat.le_refl _) (.inr ⟨Nat.le_refl _, by simp⟩) (fun i hi => rfl) ?_ ?_
  · intro i j d hi hj
    have hj0 : j = 0 := by
      have : j < 1 := (List.getElem?_eq_some_iff.1 hj).1
      omega
    subst hj0
    have e : (Addr.mk w.heap.size 0 none).add (i * 1 + 0) = ⟨w.heap.size, i, none⟩ := by
      unfold Addr.add
      split
      · rename_i h0; simp at h0; rw [h0]
      · simp
    rw [e]
    simp only [World.cell?]
    have e3 : (w.alloc (.cells ((L.map bs).map Value.string).toArray 9)).heap[w.heap.size]? = some (.cells ((L.map bs).map Value.string).toArray 9) := by show (w.heap.push _)[w.heap.size]? = _; exact Array.getElem?_push_size ..
    have e4 : (w.alloc (.cells ((L.map bs).map Value.string).toArray (sh_lays221_ren.t 9))).heap[w.heap.size]? = some (.cells ((L.map bs).map Value.string).toArray 9) := e3
    rw [e4]
    show ((L.map bs).map Value.string).toArray[i]? = _
    rw [List.getElem?_toArray, List.getElem?_map, List.getElem?_map, List.getElem?_eq_getElem hi, List.getD_eq_getElem?_getD, List.getElem?_eq_getElem hi]
    rfl
  · intro i j d hi hj
    have hj0 : j = 0 := by
      have : j < 1 := (List.getElem?_eq_some_iff.1 hj).1
      omega
    subst hj0
    injection hj with hj
    rw [← hj]
    exact .v _ rfl
theorem C192 {s : By} {c : UInt8} : PFD Tryz.prog 192 [sv s, .c (.d (.v (.string ⟨#[c]⟩)))] (sv (trimPrefix s [c])) := by
  refine pfd_below Tryz.call192 fun Γ w us hst hr => ?_
  obtain ⟨u, v, rfl, hu, hv⟩ := hr.two
  cases hu.vv; cases hv.vv
  refine (sh_strings_TrimPrefix (bs s) ⟨#[c]⟩ w).mono ?_
  rintro e w' ⟨rfl, rfl⟩
  exact ⟨_, rfl, Below.refl _ _, RepV.dv rfl⟩
end Go.Pw

set_option linter.unusedSimpArgs false
set_option linter.unusedVariables false
set_option maxHeartbeats 1000000
namespace Go.Pw
open Go.RowKit Go.Lib
set_option maxRecDepth 2000
open Go Go.Proofs A1 A2 A3 A4
theorem atoi_i64 {s : By} {v : Int} (h : atoiAll s = .ok v) : i64P v := by
  cases s with
  | nil => cases h
  | cons c r =>
    rw [atoiAll] at h
    split at h
    · cases h
    · cases h
    · rename_i u hu
      split at h
      · cases h
      · split at h
        · cases h
        · rename_i h1 h2
          injection h with h
          subst h
          by_cases hn : c.toNat = 45
          · rw [if_pos hn]
            have : ¬ 9223372036854775808 < u := fun hh => h2 ⟨hn, hh⟩
            omega
          · rw [if_neg hn]
            have : ¬ 9223372036854775808 ≤ u := fun hh => h1 ⟨hn, hh⟩
            omega
theorem C191o {s : By} {v : Int} (h : atoiAll s = .ok v) : s.length ≤ 1000000 → PFD Tryz.prog 191 [sv s] (.tup [vi .i64 v, .c (.d (.v .nilIface))]) := fun hs => by
  have := C191 hs
  unfold atV at this
  rw [h] at this; exact this
theorem C191e {s : By} (h : ∀ v, atoiAll s ≠ .ok v) : s.length ≤ 1000000 → ∃ n, PFD Tryz.prog 191 [sv s] (.tup [vi .i64 n, .c .er]) := fun hs => by
  have := C191 hs
  unfold atV at this
  match e : atoiAll s with
  | .ok v => exact absurd e (h v)
  | Lib.NumEnd.syntax => rw [e] at this; exact ⟨_, this⟩
  | .range => rw [e] at this; exact ⟨_, this⟩
end Go.Pw

set_option linter.unusedSimpArgs false
set_option linter.unusedVariables false
set_option maxHeartbeats 1000000
namespace Go.Pw
open Go.RowKit Go.Lib
set_option maxRecDepth 2000
open Go Go.Proofs A1 A2 A3 A4
theorem C94 {s : By} {c : UInt8} : s.length ≤ 1000000 → PFD Tryz.prog 94 [sv s, .c (.d (.v (.string ⟨#[c]⟩)))] (.c (sts (cutG c [] s))) := fun hs => by
  have h := C185 (c := c) hs
  refine pi1 fn94 ?_
  (repeat' first | (refine Owe.same ?_; first | refine Owe.o ?_ | refine Owe.mk ?_ ?_) | (refine Fork.same ?_; (first | refine fkD ?_ ?_ | refine fkN ?_ ?_ | refine fkM ?_ ?_) <;> intro h) | ((first | refine OpsL.same ?_ | refine OpsDL.same ?_); first | refine pK h rfl rfl ?_) | refine MvQ.stay ?_)
  (refine rqK rfl ?_; (repeat' first | exact rfl | (refine qS ?_; constructor)))
/-- What number() says of a word: permitted is a sign if `neg`. -/
def nmV (s : By) (d : Int) (neg : Bool) : Option Int := match numV s d with
  | some n => if neg = true ∨ 0 ≤ n then some n else none
  | none => none
theorem nmV_none {s : By} {d : Int} {g : Bool} (h : ∀ n, numV s d = some n → (g = true ∨ 0 ≤ n) → False) : nmV s d g = none := by
  unfold nmV
  cases hn : numV s d with
  | none => rfl
  | some n => simp only; rw [if_neg (fun h' => h n hn h')]
theorem nmV_some {s : By} {d n : Int} {g : Bool} (h1 : numV s d = some n) (h2 : g = true ∨ 0 ≤ n) : nmV s d g = some n := by
  unfold nmV; rw [h1]; simp only; rw [if_pos h2]
theorem C98 {s : By} {d : Int} {g : Bool} : (s.length ≤ 1000000 ∧ d ≤ 18) → ∃ v, (∀ n, nmV s d g = some n → v = n) ∧ PFD Tryz.prog 98 [sv s, vi .i64 d, vbl g] (.tup [vi .i64 v, vbl (nmV s d g).isSome]) := fun ⟨hs, hd⟩ => by
  have h192 := C192 (s := s) (c := 45)
  have hz : (bs (trimPrefix s [45])).size = (trimPrefix s [45]).length := bs_size _
  by_cases ha : ∃ v, atoiAll s = .ok v
  · obtain ⟨v, ha⟩ := ha
    have h191 := C191o ha hs
    have h181 := C181 (atoi_i64 ha)
    have only : ∀ {n}, numV s d = some n → n = v := fun hn => by
      have := (int_iff hd).2 hn
      rw [ha] at this
      exact (by have := this.1; injection this with h; exact h.symm)
    have hT : (bs (trimPrefix s [45])).size = (trimPrefix s [45]).length := hz
    by_cases hi : itoa v = s
    · have hi' : (bs (itoa v)).data.toList = (bs s).data.toList := by rw [hi]
      by_cases hl : ((trimPrefix s [45]).length : Int) ≤ d
      · have hn : numV s d = some v := (int_iff hd).1 ⟨ha, hi, hl⟩
        have hl' : (((bs (trimPrefix s [45])).size : Nat) : Int) ≤ d := by rw [hz]; exact hl
        generalize trimPrefix s [45] = T at *
        clear ha hs hd only hl
        by_cases hg : g = true ∨ 0 ≤ v
        · rw [nmV_some hn hg]
          refine ⟨v, fun n h => by injection h, ?_⟩
          have hT : decide (((bs T).size : Int) ≤ d) = true := decide_eq_true hl'
          cases g with
          | true =>
            refine pi2 fn98 ?_
            (repeat' first | (refine Owe.same ?_; first | refine Owe.o ?_ | refine Owe.mk ?_ ?_) | (refine Fork.same ?_; (first | refine fkY ?_ | refine fkF ?_ | ((first | refine fkD ?_ ?_ | refine fkN ?_ ?_ | refine fkM ?_ ?_) <;> (intro h; try (exfalso; omega))))) | ((first | refine OpsL.same ?_ | refine OpsDL.same ?_); first | refine oK h191 rfl rfl rfl ?_ | refine oK h181 rfl rfl rfl ?_ | refine oK h192 rfl rfl rfl ?_) | refine MvQ.stay ?_)
            (refine rqK rfl ?_; (repeat' first | exact rfl | (refine qS ?_; constructor)))
            exact hT
          | false =>
            have hg : 0 ≤ v := by rcases hg with h | h; exact absurd h (by decide); exact h
            refine pi2 fn98 ?_
            (repeat' first | (refine Owe.same ?_; first | refine Owe.o ?_ | refine Owe.mk ?_ ?_) | (refine Fork.same ?_; (first | refine fkY ?_ | refine fkF ?_ | ((first | refine fkD ?_ ?_ | refine fkN ?_ ?_ | refine fkM ?_ ?_) <;> (intro h; try (exfalso; omega))))) | ((first | refine OpsL.same ?_ | refine OpsDL.same ?_); first | refine oK h191 rfl rfl rfl ?_ | refine oK h181 rfl rfl rfl ?_ | refine oK h192 rfl rfl rfl ?_) | refine MvQ.stay ?_)
            (refine rqK rfl ?_; (repeat' first | exact rfl | (refine qS ?_; constructor)))
            exact hT
        · rw [nmV_none (fun n h h2 => by rw [hn] at h; injection h with h; exact hg (h ▸ h2))]
          refine ⟨v, (fun n h => (by cases h)), ?_⟩
          have hg1 : g = false := by cases g; rfl; exact absurd (.inl rfl) hg
          have hg2 : v < 0 := by omega
          subst hg1
          refine pi2 fn98 ?_
          (repeat' first | (refine Owe.same ?_; first | refine Owe.o ?_ | refine Owe.mk ?_ ?_) | (refine Fork.same ?_; (first | refine fkY ?_ | refine fkF ?_ | ((first | refine fkD ?_ ?_ | refine fkN ?_ ?_ | refine fkM ?_ ?_) <;> (intro h; try (exfalso; omega))))) | ((first | refine OpsL.same ?_ | refine OpsDL.same ?_); first | refine oK h191 rfl rfl rfl ?_ | refine oK h181 rfl rfl rfl ?_ | refine oK h192 rfl rfl rfl ?_) | refine MvQ.stay ?_)
          (refine rqK rfl ?_; (repeat' first | exact rfl | (refine qS ?_; constructor)))
      · have hl' : ¬ (((bs (trimPrefix s [45])).size : Nat) : Int) ≤ d := by rw [hz]; exact hl
        have hT : decide (((bs (trimPrefix s [45])).size : Int) ≤ d) = false := decide_eq_false hl'
        rw [nmV_none (fun n h _ => hl ((int_iff hd).2 h).2.2)]
        refine ⟨v, (fun n h => (by cases h)), ?_⟩
        generalize trimPrefix s [45] = T at *
        clear ha hs hd only hl
        cases g with
        | true =>
          refine pi2 fn98 ?_
          (repeat' first | (refine Owe.same ?_; first | refine Owe.o ?_ | refine Owe.mk ?_ ?_) | (refine Fork.same ?_; (first | refine fkY ?_ | refine fkF ?_ | ((first | refine fkD ?_ ?_ | refine fkN ?_ ?_ | refine fkM ?_ ?_) <;> (intro h; try (exfalso; omega))))) | ((first | refine OpsL.same ?_ | refine OpsDL.same ?_); first | refine oK h191 rfl rfl rfl ?_ | refine oK h181 rfl rfl rfl ?_ | refine oK h192 rfl rfl rfl ?_) | refine MvQ.stay ?_)
          (refine rqK rfl ?_; (repeat' first | exact rfl | (refine qS ?_; constructor)))
          exact hT
        | false =>
          by_cases hg : 0 ≤ v
          · refine pi2 fn98 ?_
            (repeat' first | (refine Owe.same ?_; first | refine Owe.o ?_ | refine Owe.mk ?_ ?_) | (refine Fork.same ?_; (first | refine fkY ?_ | refine fkF ?_ | ((first | refine fkD ?_ ?_ | refine fkN ?_ ?_ | refine fkM ?_ ?_) <;> (intro h; try (exfalso; omega))))) | ((first | refine OpsL.same ?_ | refine OpsDL.same ?_); first | refine oK h191 rfl rfl rfl ?_ | refine oK h181 rfl rfl rfl ?_ | refine oK h192 rfl rfl rfl ?_) | refine MvQ.stay ?_)
            (refine rqK rfl ?_; (repeat' first | exact rfl | (refine qS ?_; constructor)))
            exact hT
          · refine pi2 fn98 ?_
            (repeat' first | (refine Owe.same ?_; first | refine Owe.o ?_ | refine Owe.mk ?_ ?_) | (refine Fork.same ?_; (first | refine fkY ?_ | refine fkF ?_ | ((first | refine fkD ?_ ?_ | refine fkN ?_ ?_ | refine fkM ?_ ?_) <;> (intro h; try (exfalso; omega))))) | ((first | refine OpsL.same ?_ | refine OpsDL.same ?_); first | refine oK h191 rfl rfl rfl ?_ | refine oK h181 rfl rfl rfl ?_ | refine oK h192 rfl rfl rfl ?_) | refine MvQ.stay ?_)
            (refine rqK rfl ?_; (repeat' first | exact rfl | (refine qS ?_; constructor)))
    · have hi' : ¬ (bs (itoa v)).data.toList = (bs s).data.toList := fun h => hi h
      rw [nmV_none (fun n h _ => hi (by have h1 := only h; have h2 := ((int_iff hd).2 h).2.1; rw [h1] at h2; exact h2))]
      refine ⟨v, (fun n h => (by cases h)), ?_⟩
      clear ha hs hd only
      refine pi2 fn98 ?_
      (repeat' first | (refine Owe.same ?_; first | refine Owe.o ?_ | refine Owe.mk ?_ ?_) | (refine Fork.same ?_; (first | refine fkY ?_ | refine fkF ?_ | ((first | refine fkD ?_ ?_ | refine fkN ?_ ?_ | refine fkM ?_ ?_) <;> (intro h; try (exfalso; omega))))) | ((first | refine OpsL.same ?_ | refine OpsDL.same ?_); first | refine oK h191 rfl rfl rfl ?_ | refine oK h181 rfl rfl rfl ?_ | refine oK h192 rfl rfl rfl ?_) | refine MvQ.stay ?_)
      (refine rqK rfl ?_; (repeat' first | exact rfl | (refine qS ?_; constructor)))
  · obtain ⟨n, h191⟩ := C191e (fun v h => ha ⟨v, h⟩) hs
    rw [nmV_none (fun n h _ => ha ⟨n, ((int_iff hd).2 h).1⟩)]
    refine ⟨n, (fun n h => (by cases h)), ?_⟩
    clear ha
    refine pi2 fn98 ?_
    (repeat' first | (refine Owe.same ?_; first | refine Owe.o ?_ | refine Owe.mk ?_ ?_) | (refine Fork.same ?_; (first | refine fkY ?_ | refine fkF ?_ | ((first | refine fkD ?_ ?_ | refine fkN ?_ ?_ | refine fkM ?_ ?_) <;> (intro h; try (exfalso; omega))))) | ((first | refine OpsL.same ?_ | refine OpsDL.same ?_); first | refine oK h191 rfl rfl rfl ?_) | refine MvQ.stay ?_)
    (refine rqK rfl ?_; (repeat' first | exact rfl | (refine qS ?_; constructor)))
end Go.Pw

set_option linter.unusedVariables false
set_option maxHeartbeats 2000000
set_option maxRecDepth 100000
namespace Go.Pw
open Go Go.Proofs
/-- slices.Index[[]int,int] -/
def lc250 : LCode :=
  (.seq (.region [⟨some 4, .mv (.const (.int .i64 0)), none⟩]) (.seq (.seq (.region [⟨some 6, .mv (.tmp 0), none⟩, ⟨some 7, .len (.tmp 6), none⟩, ⟨some 8, .mv (.const (.int .i64
    0)), none⟩]) (.block 0 (.loop (.seq (.region [⟨some 9, .bin .lss (.tmp 8) (.tmp 7), none⟩]) (.seq (.cond (.tmp 9) .skip (.exit 0)) (.seq (.block 1 (.seq (.region [⟨some 10, .mv
    (.tmp 8), none⟩, ⟨some 5, .mv (.tmp 10), none⟩]) (.seq (.region [⟨some 11, .mv (.tmp 1), none⟩, ⟨some 12, .mv (.tmp 0), none⟩, ⟨some 13, .mv (.tmp 5), none⟩, ⟨some 14, .idx 1
    (.tmp 12) (.tmp 13), none⟩, ⟨some 15, .load false 1 (.tmp 14), none⟩, ⟨some 16, .bin .eql (.tmp 11) (.tmp 15), none⟩]) (.cond (.tmp 16) (.seq (.region [⟨some 17, .mv (.tmp 5),
    none⟩, ⟨some 4, .mv (.tmp 17), none⟩]) .ret) .skip)))) (.region [⟨some 18, .bin .add (.tmp 8) (.const (.int .i64 1)), none⟩, ⟨some 8, .mv (.tmp 18), none⟩]))))))) (.seq (.region
    [⟨some 4, .mv (.const (.int .i64 (-1))), none⟩]) .ret)))
theorem low250 : lowF Tryz.prog [] Tryz.f250 = some (19, lc250.strip, [.tmp 4]) := by kernel_rfl
theorem fn250 : FnOk Tryz.prog 250 19 lc250 [.tmp 4] := ⟨Tryz.call250, [], _, Tryz.func250, low250⟩
end Go.Pw

set_option linter.unusedSimpArgs false
set_option linter.unusedVariables false
set_option maxHeartbeats 1000000
namespace Go.Pw
open Go.RowKit Go.Lib
set_option maxRecDepth 2000
open Go Go.Proofs A1 A2 A3 A4
def idxE (n : Int) : Int → List Int → Int
  | _, [] => -1
  | k, x :: l => if n = x then k else idxE n (k + 1) l
theorem idxE_drop (n : Int) (l : List Int) (k : Nat) (h : k < l.length) : idxE n k (l.drop k) = if n = l.getD k 0 then (k : Int) else idxE n ((k + 1 : Nat) : Int) (l.drop (k + 1)) := by
  have e : l.drop k = l.getD k 0 :: l.drop (k + 1) := by
    rw [List.getD_eq_getElem?_getD, List.getElem?_eq_getElem h]; exact List.drop_eq_getElem_cons h
  rw [e, idxE]; rfl
theorem idxE_ge (n : Int) : ∀ (l : List Int) (k : Int), 0 ≤ k → (0 ≤ idxE n k l ↔ n ∈ l)
  | [], k, _ => by simp [idxE]
  | x :: l, k, hk => by
    rw [idxE]
    split
    · rename_i h; subst h; simp [hk]
    · rename_i h; rw [idxE_ge n l (k + 1) (by omega), List.mem_cons]; simp [h]
theorem C250 {l : List Int} {n : Int} : l.length ≤ 1000000 → PFD Tryz.prog 250 [.c (ints l), vi .i64 n] (vi .i64 (idxE n 0 l)) := fun hl => by
  refine pi1 fn250 ?_
  (repeat' first | (refine Owe.same ?_; first | refine Owe.o ?_ | refine Owe.mk ?_ ?_) | (refine Fork.same ?_; (first | refine fkD ?_ ?_ | refine fkN ?_ ?_ | refine fkM ?_ ?_) <;> intro h) | refine MvQ.stay ?_)
  refine Sat.lp0 (fun k : Nat => [(8, vi .i64 k), (7, vi .i64 l.length), (0, .c (ints l)), (1, vi .i64 n)]) (fun k => k ≤ l.length ∧ idxE n 0 l = idxE n k (l.drop k)) (fun k => l.length - k) 0 ⟨Nat.zero_le _, rfl⟩ (by ((first | refine qen ?_ | refine qvs ?_ | refine qeq ?_ | refine qst ?_ | refine qv ?_ | refine qc ?_ | refine qe ?_ | refine qcs ?_ | skip); (repeat' first | exact rfl | (refine qS ?_; constructor)))) ?_
  intro k hk
  (repeat' first | (refine Owe.same ?_; first | refine Owe.o ?_ | refine Owe.mk ?_ ?_) | (refine Fork.same ?_; (first | refine fkD ?_ ?_ | refine fkN ?_ ?_ | refine fkM ?_ ?_) <;> intro h) | refine MvQ.stay ?_)
  · have e := idxE_drop n l k (by omega)
    have h : n = l.getD k 0 := h
    rw [if_pos h, ← hk.2] at e
    (refine rqK rfl ?_; (repeat' first | exact rfl | (refine qS ?_; constructor))); rw [e]
  · have e := idxE_drop n l k (by omega)
    have h : ¬ n = l.getD k 0 := h
    rw [if_neg h, ← hk.2] at e
    exact again0 (k + 1) ⟨by omega, e⟩ (by omega) (by ((first | refine qen ?_ | refine qvs ?_ | refine qeq ?_ | refine qst ?_ | refine qv ?_ | refine qc ?_ | refine qe ?_ | refine qcs ?_ | skip); (repeat' first | exact rfl | (refine qS ?_; constructor))))
  · have e : idxE n 0 l = -1 := by rw [hk.2, List.drop_of_length_le (by omega)]; rfl
    (refine rqK rfl ?_; (repeat' first | exact rfl | (refine qS ?_; constructor))); rw [e]
theorem C186 {l : List Int} {n : Int} : l.length ≤ 1000000 → PFD Tryz.prog 186 [.c (ints l), vi .i64 n] (vbl (decide (n ∈ l))) := fun hl => by
  refine pi1 fn186 ?_
  (repeat' first | (refine Owe.same ?_; first | refine Owe.o ?_ | refine Owe.mk ?_ ?_) | (refine Fork.same ?_; (first | refine fkD ?_ ?_ | refine fkN ?_ ?_ | refine fkM ?_ ?_) <;> intro h) | ((first | refine OpsL.same ?_ | refine OpsDL.same ?_); first | refine pK (C250 hl) rfl rfl ?_) | refine MvQ.stay ?_)
  (refine rqK rfl ?_; (repeat' first | exact rfl | (refine qS ?_; constructor)))
  exact decide_eq_decide.2 (idxE_ge n l 0 (Int.le_refl _))
end Go.Pw

set_option linter.unusedVariables false
namespace Go.Pw
open Go Go.RowKit
section
variable {P : Program} {N base : Nat}
def rdS (P : Program) (N base : Nat) (x : LCode) (Q : Exit → St → Prop) : Nat → Exit → St → Prop
  | 0, .normal, _ => False
  | m + 1, .normal, st => Sat P N base x st (rdS P N base x Q m)
  | _, e, st => Q e st
theorem Sat.roundsN {x : LCode} {Q : Exit → St → Prop} (m : Nat) {st : St} (h : Sat P N base x st (rdS P N base x Q m)) : Sat P N base (.loop x) st Q := by
  intro ro n B0 own code hro hl Γ0 Γ w0 w σ0 a hc hext
  obtain ⟨c1, rfl, h1⟩ := low_loop hl
  have key : ∀ m (st : St) (Γ : Cx) (w : World) (a : Act), Conc N B0 base Γ w st a → Ext base Γ0 w0 σ0 Γ w st.σ → Sat P N base x st (rdS P N base x Q m) → Code.roundsIn (FW ro) n P c1 (Post N B0 base Γ0 w0 σ0 Q) (m + 1) a w := by
    intro m
    induction m with
    | zero =>
      intro st Γ w a hc hext h
      rw [roundsIn_succ]
      refine wpIn_mono (h ro n B0 own c1 hro h1 Γ0 Γ w0 w σ0 a hc hext) (fun e a' w' ⟨Γ', st', h3, h4, h5⟩ => ?_)
      cases e with
      | normal => exact h5.elim
      | _ => exact ⟨Γ', st', h3, h4, h5⟩
    | succ m ih =>
      intro st Γ w a hc hext h
      rw [roundsIn_succ]
      refine wpIn_mono (h ro n B0 own c1 hro h1 Γ0 Γ w0 w σ0 a hc hext) (fun e a' w' ⟨Γ', st', h3, h4, h5⟩ => ?_)
      cases e with
      | normal => exact ih st' Γ' w' a' h3 h4 h5
      | _ => exact ⟨Γ', st', h3, h4, h5⟩
  exact wpIn_loop_rounds (m + 1) (key m st Γ w a hc hext h)
def rdQ (P : Program) (N base : Nat) [Mix P] (x : LCode) (Q : Exit → St → Prop) : Nat → Exit → St → Prop
  | 0, .normal, _ => False
  | m + 1, .normal, st => wp P N base x st (rdQ P N base x Q m)
  | _, e, st => Q e st
/-- The loop ends within so many rounds and one. -/
theorem Sat.rd [Mix P] {x : LCode} {Q : Exit → St → Prop} (m : Nat) {st : St} (h : wp P N base x st (rdQ P N base x Q m)) : SatL P N base (.loop x) st Q := by
  have key : ∀ m st, wp P N base x st (rdQ P N base x Q m) → Sat P N base x.strip st (rdS P N base x.strip Q m) := by
    intro m
    induction m with
    | zero =>
      intro st h
      refine (Sat.of h).mono fun e st' h => ?_
      cases e with
      | normal => exact h
      | _ => exact h
    | succ m ih =>
      intro st h
      refine (Sat.of h).mono fun e st' h => ?_
      cases e with
      | normal => exact ih st' h
      | _ => exact h
  exact ⟨Sat.roundsN m (key m st h)⟩
end
end Go.Pw

set_option linter.unusedSimpArgs false
set_option linter.unusedVariables false
set_option maxHeartbeats 1000000
namespace Go.Pw
open Go.RowKit Go.Lib
set_option maxRecDepth 2000
open Go Go.Proofs A1 A2 A3 A4
theorem nmV_true {s : By} {d : Int} : nmV s d true = numV s d := by
  unfold nmV; cases numV s d <;> simp
theorem pvS_two {p : By} {a b : Int} (hl : (cutG 32 [] p).length = 2) (h1 : nmV ((cutG 32 [] p).getD 0 []) 5 true = some a) (h2 : nmV ((cutG 32 [] p).getD 1 []) 5 true = some b) : hdP p = some (a, b) := by
  rw [nmV_true] at h1 h2
  have : pvS 5 p = some [a, b] := by
    show pvL 5 (cutG 32 [] p) = _
    match h : cutG 32 [] p, hl with
    | [x, y], _ => rw [h] at h1 h2; simp only [pvL]; rw [show numV x 5 = some a from h1, show numV y 5 = some b from h2]
  unfold hdP; rw [this]
theorem hdP_no {p : By} (h : ¬ ((cutG 32 [] p).length = 2 ∧ (nmV ((cutG 32 [] p).getD 0 []) 5 true).isSome ∧ (nmV ((cutG 32 [] p).getD 1 []) 5 true).isSome)) : hdP p = none := by
  cases hh : hdP p with
  | none => rfl
  | some q =>
    obtain ⟨a, b⟩ := q
    have h1 : pvL 5 (cutG 32 [] p) = some [a, b] := hdP_y hh
    have hl := pvL_len h1
    refine absurd ?_ h
    rw [nmV_true, nmV_true]
    match h2 : cutG 32 [] p, hl with
    | [x, y], _ =>
      rw [h2] at h1
      simp only [pvL] at h1
      refine ⟨rfl, ?_, ?_⟩
      · show (numV x 5).isSome = true
        cases hx : numV x 5 with
        | none => rw [hx] at h1; simp at h1
        | some _ => rfl
      · show (numV y 5).isSome = true
        cases hx : numV y 5 with
        | none => rw [hx] at h1; cases numV x 5 <;> simp at h1
        | some _ => rfl
abbrev lit01 : C := .d (.sl 1 [[dI 0], [dI 1]].length fun i => [[dI 0], [dI 1]].getD i [])
theorem PFD.ri0 {P : Program} {f : FuncId} {args args' : List V} {v : V} (h : PFD P f args' v) (hr : RIs args args') : PFD P f args v :=
  ⟨h.h.1, h.h.2.1, fun Γ w us hs hn ha => h.h.2.2 Γ w us hs hn (hr.rep ha)⟩
theorem CEq.li_01 : CEq lit01 (ints [0, 1]) := CEq.sl rfl (fun i hi => by
  rcases i with _ | i
  · rfl
  rcases i with _ | i
  · rfl
  exact absurd hi (by simp only [List.length_cons, List.length_nil]; omega))
theorem k01 (n : Int) (h : (n ∈ ([0, 1] : List Int)) = True) : PFD Tryz.prog 186 [.c lit01, vi .i64 n] (vbl true) := by
  have h1 := C186 (l := [0, 1]) (n := n) (by decide)
  rw [show decide (n ∈ ([0, 1] : List Int)) = true by rw [decide_eq_true_eq]; rw [h]; trivial] at h1
  exact PFD.ri0 h1 (VEqs.ris ⟨.c _ _ CEq.li_01, .refl _, trivial⟩)
abbrev okV (b : Bool) : V := .c (match b with | true => .tru | false => .fls)
theorem fillH {p : By} (hp : p.length ≤ 60000) {X : C} {E0 : Ent} {R : V → Store → Nat → Prop}
    (h : ∀ ok a b nx, (nx = 3 ∨ nx = 14 ∨ nx = 25) → (ok = true → hdP p = some (a, b)) → (ok = false → hdP p = none) → R (okV ok) [(2, .box [.bp 1 0, .bp 1 1]), (1, .box [int a, int b, X]), (0, E0)] nx) :
    CallS Tryz.prog 95 [sv p, .c lit01, .c (.sb 2 2)] [(2, .box [.bp 1 0, .bp 1 1]), (1, .box [int 0, int 0, X]), (0, E0)] 3 R := by
  have hw := C94 (s := p) (c := 32) (Nat.le_trans hp (by decide))
  refine CallS.of fn95 rfl ?_
  by_cases hl : (cutG 32 [] p).length = 2
  · have k0 := k01 0 (by simp)
    have k1 := k01 1 (by simp)
    have hWx : ∀ x ∈ cutG 32 [] p, x.length ≤ 1000000 := fun x hx => by have := cut_len x hx; simp at this; omega
    obtain ⟨v0, e0, n0⟩ := C98 (s := (cutG 32 [] p).getD 0 []) (d := 5) (g := true) ⟨hWx _ (getD_mem [] (by omega)), by decide⟩
    obtain ⟨v1, e1, n1⟩ := C98 (s := (cutG 32 [] p).getD 1 []) (d := 5) (g := true) ⟨hWx _ (getD_mem [] (by omega)), by decide⟩
    have hy := @pvS_two p v0 v1 hl
    have hno := @hdP_no p
    generalize cutG 32 [] p = W at *
    clear hWx hp
    cases h0 : nmV (W.getD 0 []) 5 true with
    | none =>
      rw [h0] at n0 hno
      have hn := hno (fun h => (by cases h.2.1))
      (repeat' first | (refine Owe.same ?_; first | refine Owe.o ?_ | refine Owe.mk ?_ ?_) | (refine Fork.same ?_; (first | refine fkY ?_ | refine fkF ?_ | ((first | refine fkD ?_ ?_ | refine fkN ?_ ?_ | refine fkM ?_ ?_) <;> (intro h; try (exfalso; omega))))) | ((first | refine OpsL.same ?_ | refine OpsDL.same ?_); first | refine oK hw rfl rfl rfl ?_) | refine MvQ.stay ?_)
      refine Sat.rd 3 ?_
      (repeat' first | (refine Owe.same ?_; first | refine Owe.o ?_ | refine Owe.mk ?_ ?_) | (refine Fork.same ?_; (first | refine fkY ?_ | refine fkF ?_ | ((first | refine fkD ?_ ?_ | refine fkN ?_ ?_ | refine fkM ?_ ?_) <;> (intro h; try (exfalso; omega))))) | ((first | refine OpsL.same ?_ | refine OpsDL.same ?_); first | refine oK k0 rfl rfl rfl ?_ | refine oK n0 rfl rfl rfl ?_) | refine MvQ.stay ?_)
      exact h false 0 0 14 (by decide) (fun h => (by cases h)) (fun _ => hn)
    | some a =>
      cases h1 : nmV (W.getD 1 []) 5 true with
      | none =>
        rw [h0] at n0
        rw [h1] at n1 hno
        have hn := hno (fun h => (by cases h.2.2))
        (repeat' first | (refine Owe.same ?_; first | refine Owe.o ?_ | refine Owe.mk ?_ ?_) | (refine Fork.same ?_; (first | refine fkY ?_ | refine fkF ?_ | ((first | refine fkD ?_ ?_ | refine fkN ?_ ?_ | refine fkM ?_ ?_) <;> (intro h; try (exfalso; omega))))) | ((first | refine OpsL.same ?_ | refine OpsDL.same ?_); first | refine oK hw rfl rfl rfl ?_) | refine MvQ.stay ?_)
        refine Sat.rd 3 ?_
        (repeat' first | (refine Owe.same ?_; first | refine Owe.o ?_ | refine Owe.mk ?_ ?_) | (refine Fork.same ?_; (first | refine fkY ?_ | refine fkF ?_ | ((first | refine fkD ?_ ?_ | refine fkN ?_ ?_ | refine fkM ?_ ?_) <;> (intro h; try (exfalso; omega))))) | ((first | refine OpsL.same ?_ | refine OpsDL.same ?_); first | refine oK k0 rfl rfl rfl ?_ | refine oK n0 rfl rfl rfl ?_ | refine oK k1 rfl rfl rfl ?_ | refine oK n1 rfl rfl rfl ?_) | refine MvQ.stay ?_)
        exact h false v0 0 25 (by decide) (fun h => (by cases h)) (fun _ => hn)
      | some b =>
        rw [h0] at n0
        rw [h1] at n1
        have hn := hy (by rw [h0, e0 a h0]) (by rw [h1, e1 b h1])
        (repeat' first | (refine Owe.same ?_; first | refine Owe.o ?_ | refine Owe.mk ?_ ?_) | (refine Fork.same ?_; (first | refine fkY ?_ | refine fkF ?_ | ((first | refine fkD ?_ ?_ | refine fkN ?_ ?_ | refine fkM ?_ ?_) <;> (intro h; try (exfalso; omega))))) | ((first | refine OpsL.same ?_ | refine OpsDL.same ?_); first | refine oK hw rfl rfl rfl ?_) | refine MvQ.stay ?_)
        refine Sat.rd 3 ?_
        (repeat' first | (refine Owe.same ?_; first | refine Owe.o ?_ | refine Owe.mk ?_ ?_) | (refine Fork.same ?_; (first | refine fkY ?_ | refine fkF ?_ | ((first | refine fkD ?_ ?_ | refine fkN ?_ ?_ | refine fkM ?_ ?_) <;> (intro h; try (exfalso; omega))))) | ((first | refine OpsL.same ?_ | refine OpsDL.same ?_); first | refine oK k0 rfl rfl rfl ?_ | refine oK n0 rfl rfl rfl ?_ | refine oK k1 rfl rfl rfl ?_ | refine oK n1 rfl rfl rfl ?_) | refine MvQ.stay ?_)
        exact h true v0 v1 25 (by decide) (fun _ => hn) (fun h => (by cases h))
  · have hn := hdP_no (p := p) (fun h => hl h.1)
    generalize cutG 32 [] p = W at *
    (repeat' first | (refine Owe.same ?_; first | refine Owe.o ?_ | refine Owe.mk ?_ ?_) | (refine Fork.same ?_; (first | refine fkY ?_ | refine fkF ?_ | ((first | refine fkD ?_ ?_ | refine fkN ?_ ?_ | refine fkM ?_ ?_) <;> (intro h; try (exfalso; omega))))) | ((first | refine OpsL.same ?_ | refine OpsDL.same ?_); first | refine oK hw rfl rfl rfl ?_) | refine MvQ.stay ?_)
    exact h false 0 0 3 (by decide) (fun h => (by cases h)) (fun _ => hn)
end Go.Pw

set_option linter.unusedVariables false
set_option maxHeartbeats 2000000
set_option maxRecDepth 100000
namespace Go.Pw
open Go Go.Proofs
/-- slices.Chunk[[]string,string] -/
def lc97u : LCode :=
  (.seq (.region [⟨some 2, .box (.tmp 0), none⟩, ⟨some 3, .box (.tmp 1), none⟩, ⟨some 4, .mv (.const .nilFunc), none⟩]) (.seq (.seq (.region [⟨some 5, .load false 1 (.tmp 3), none⟩,
    ⟨some 6, .bin .lss (.tmp 5) (.const (.int .i64 1)), none⟩]) (.cond (.tmp 6) (.region [⟨some 7, .bad, none⟩, ⟨none, .bad, none⟩]) .skip)) (.seq (.region [⟨some 8, .mkfn 190
    [(.tmp 2), (.tmp 3)], none⟩, ⟨some 4, .mv (.tmp 8), none⟩]) .ret)))
theorem low97u : lowF Tryz.prog [] Tryz.f97 = some (9, lc97u.strip, [.tmp 4]) := by kernel_rfl
theorem fn97u : FnOk Tryz.prog 97 9 lc97u [.tmp 4] := ⟨Tryz.call97, [], _, Tryz.func97, low97u⟩
end Go.Pw

set_option linter.unusedSimpArgs false
set_option linter.unusedVariables false
set_option maxHeartbeats 1000000
namespace Go.Pw
open Go.RowKit Go.Lib
set_option maxRecDepth 2000
open Go Go.Proofs A1 A2 A3 A4
theorem C100 {r : Rg} : PFD Tryz.prog 100 [.agg [int r.1, int r.2]] (vbl (decide (r.1 > r.2))) := by
  refine pi1 fn100 ?_
  (repeat' first | (refine Owe.same ?_; first | refine Owe.o ?_ | refine Owe.mk ?_ ?_) | (refine Fork.same ?_; (first | refine fkD ?_ ?_ | refine fkN ?_ ?_ | refine fkM ?_ ?_) <;> intro h) | refine MvQ.stay ?_)
  (refine rqK rfl ?_; (repeat' first | exact rfl | (refine qS ?_; constructor)))
theorem C193 {g : FuncId} {f : Rg → Bool} (hg : ∀ x : Rg, PFD Tryz.prog g [.agg [int x.1, int x.2]] (vbl (f x))) {l : List Rg} : l.length ≤ 1000000 → PFD Tryz.prog 193 [.c (prs l), .c (.fn g [])] (vi .i64 (idxI f 0 l)) := fun hl => by
  refine pi1 fn193 ?_
  (repeat' first | (refine Owe.same ?_; first | refine Owe.o ?_ | refine Owe.mk ?_ ?_) | (refine Fork.same ?_; (first | refine fkD ?_ ?_ | refine fkN ?_ ?_ | refine fkM ?_ ?_) <;> intro h) | refine MvQ.stay ?_)
  refine Sat.lp0 (fun k : Nat => [(8, vi .i64 k), (7, vi .i64 l.length), (6, .c (prs l)), (0, .c (prs l)), (1, .c (.fn g []))]) (fun k => k ≤ l.length ∧ idxI f 0 l = idxI f k (l.drop k)) (fun k => l.length - k) 0 ⟨Nat.zero_le _, rfl⟩ (by ((first | refine qen ?_ | refine qvs ?_ | refine qeq ?_ | refine qst ?_ | refine qv ?_ | refine qc ?_ | refine qe ?_ | refine qcs ?_ | skip); (repeat' first | exact rfl | (refine qS ?_; constructor)))) ?_
  intro k hk
  (repeat' first | (refine Owe.same ?_; first | refine Owe.o ?_ | refine Owe.mk ?_ ?_) | (refine Fork.same ?_; (first | refine fkD ?_ ?_ | refine fkN ?_ ?_ | refine fkM ?_ ?_) <;> intro h) | ((first | refine OpsL.same ?_ | refine OpsDL.same ?_); first | refine pK (hg _) rfl rfl ?_) | refine MvQ.stay ?_)
  · have e := idxI_drop f (0, 0) l k (by omega)
    have h : f (l.getD k (0, 0)) = true := h
    rw [if_pos h, ← hk.2] at e
    (refine rqK rfl ?_; (repeat' first | exact rfl | (refine qS ?_; constructor))); rw [e]
  · have e := idxI_drop f (0, 0) l k (by omega)
    have h : ¬ f (l.getD k (0, 0)) = true := by rw [show f (l.getD k (0, 0)) = false from h]; simp
    rw [if_neg h, ← hk.2] at e
    exact again0 (k + 1) ⟨by omega, e⟩ (by omega) (by ((first | refine qen ?_ | refine qvs ?_ | refine qeq ?_ | refine qst ?_ | refine qv ?_ | refine qc ?_ | refine qe ?_ | refine qcs ?_ | skip); (repeat' first | exact rfl | (refine qS ?_; constructor))))
  · (refine rqK rfl ?_; (repeat' first | exact rfl | (refine qS ?_; constructor)))
    rw [hk.2, List.drop_of_length_le (by omega)]; rfl
abbrev gtP (x : Rg) : Bool := decide (x.1 > x.2)
theorem C99 {l : List Rg} : l.length ≤ 1000000 → PFD Tryz.prog 99 [.c (prs l), .c (.fn 100 [])] (vbl (decide (∃ x ∈ l, x.1 > x.2))) := fun hl => by
  have c1 := C193 (fun x => C100 (r := x)) hl
  have h : (0 ≤ idxI gtP 0 l) ↔ ∃ x ∈ l, x.1 > x.2 := by rw [idxI_nn]; simp [gtP]
  refine pi1 fn99 ?_
  (repeat' first | (refine Owe.same ?_; first | refine Owe.o ?_ | refine Owe.mk ?_ ?_) | (refine Fork.same ?_; (first | refine fkD ?_ ?_ | refine fkN ?_ ?_ | refine fkM ?_ ?_) <;> intro h) | ((first | refine OpsL.same ?_ | refine OpsDL.same ?_); first | refine pK c1 rfl rfl ?_) | refine MvQ.stay ?_)
  (refine rqK rfl ?_; (repeat' first | exact rfl | (refine qS ?_; constructor)))
  rw [decide_eq_decide]; exact h
theorem C15 {s : By} : s.length ≤ 100000 → PFD Tryz.prog 15 [sv s] (.tup [.c (prs (bxE s).1), vi .i64 (bxE s).2]) := fun hs => by
  have hz : (bs s).size = s.length := bs_size s
  by_cases hb : 60000 < s.length
  · rw [show bxE s = ([], 8) by unfold bxE; rw [if_pos hb]]
    refine pi2 fn15 ?_
    (repeat' first | (refine Owe.same ?_; first | refine Owe.o ?_ | refine Owe.mk ?_ ?_) | (refine Fork.same ?_; (first | refine fkD ?_ ?_ | refine fkN ?_ ?_ | refine fkM ?_ ?_) <;> (intro h; try (exfalso; omega))) | refine MvQ.stay ?_)
    (refine rqK rfl ?_; (repeat' first | exact rfl | (refine qS ?_; constructor)))
  by_cases h0 : s = []
  · rw [show bxE s = ([], 0) by unfold bxE; rw [if_neg hb, if_pos h0]]
    subst h0
    refine pi2 fn15 ?_
    (repeat' first | (refine Owe.same ?_; first | refine Owe.o ?_ | refine Owe.mk ?_ ?_) | (refine Fork.same ?_; (first | refine fkD ?_ ?_ | refine fkN ?_ ?_ | refine fkM ?_ ?_) <;> (intro h; try (exfalso; omega))) | refine MvQ.stay ?_)
    · (refine rqK rfl ?_; (repeat' first | exact rfl | (refine qS ?_; constructor)))
    · rename_i h; exact absurd rfl h
  have hne : ¬ (bs s).data.toList = (ByteArray.mk #[]).data.toList := fun h => h0 (by simpa [bs] using h)
  have h94 := C94 (s := s) (c := 32) (by omega)
  have hPl := cut_count (c := 32) (l := s) (acc := [])
  have hPx : Hd (∀ x ∈ cutG 32 [] s, x.length ≤ 60000) := ⟨fun x hx => by have := cut_len x hx; simp at this; omega⟩
  have hE1 : pvL 2 (cutG 32 [] s) = none → bxE s = ([], 7) := fun h => by
    unfold bxE; rw [if_neg hb, if_neg h0, show pvS 2 s = none from h]
  have hE2 : ∀ v, pvL 2 (cutG 32 [] s) = some v → bxE s = bxV v := fun v h => by
    unfold bxE; rw [if_neg hb, if_neg h0, show pvS 2 s = some v from h]
  generalize bxE s = B at *
  generalize cutG 32 [] s = W at *
  by_cases h2 : W.length % 2 ≠ 0
  · have hB : B = ([], 7) := by
      cases hv : pvL 2 W with
      | none => exact hE1 hv
      | some v => rw [hE2 v hv]; unfold bxV; rw [pvL_len hv, if_pos h2]
    rw [hB]
    have htm : (W.length : Int).tmod 2 = ((W.length % 2 : Nat) : Int) := rfl
    refine pi2 fn15 ?_
    (repeat' first | (refine Owe.same ?_; first | refine Owe.o ?_ | refine Owe.mk ?_ ?_) | (refine Fork.same ?_; (first | refine fkY ?_ | refine fkF ?_ | ((first | refine fkD ?_ ?_ | refine fkN ?_ ?_ | refine fkM ?_ ?_) <;> (intro h; try (exfalso; omega))))) | ((first | refine OpsL.same ?_ | refine OpsDL.same ?_); first | refine oK h94 rfl rfl rfl ?_) | refine MvQ.stay ?_)
    (refine rqK rfl ?_; (repeat' first | exact rfl | (refine qS ?_; constructor)))
  · have htm : (W.length : Int).tmod 2 = ((W.length % 2 : Nat) : Int) := rfl
    refine pi2 fn15 ?_
    (repeat' first | (refine Owe.same ?_; first | refine Owe.o ?_ | refine Owe.mk ?_ ?_) | (refine Fork.same ?_; (first | refine fkY ?_ | refine fkF ?_ | ((first | refine fkD ?_ ?_ | refine fkN ?_ ?_ | refine fkM ?_ ?_) <;> (intro h; try (exfalso; omega))))) | ((first | refine OpsL.same ?_ | refine OpsDL.same ?_); first | refine oK h94 rfl rfl rfl ?_) | refine MvQ.stay ?_)
    refine Ops.cs rfl rfl (CallS.of fn97u rfl ?_)
    (repeat' first | (refine Owe.same ?_; first | refine Owe.o ?_ | refine Owe.mk ?_ ?_) | (refine Fork.same ?_; (first | refine fkD ?_ ?_ | refine fkN ?_ ?_ | refine fkM ?_ ?_) <;> (intro h; try (exfalso; omega))) | refine MvQ.stay ?_)
    refine Sat.keep [2, 3, 4, 5, 23] ?_
    refine Sat.rf rfl rfl (CallS.of fn190 rfl ?_)
    (repeat' first | (refine Owe.same ?_; first | refine Owe.o ?_ | refine Owe.mk ?_ ?_) | (refine Fork.same ?_; (first | refine fkD ?_ ?_ | refine fkN ?_ ?_ | refine fkM ?_ ?_) <;> (intro h; try (exfalso; omega))) | refine MvQ.stay ?_)
    refine Sat.nilB 2 0 82 2 (fun i => r2 (([] : List Rg).getD i (0, 0))) rfl rfl ?_
    refine Sat.lp (fun st : Nat × List Rg => ⟨[(0, .c (.yd 5)), (1, .c (.bp 3 0)), (2, .c (.bp 4 0)), (4, vi .i64 (2 * (st.1 : Int)))],
        [(0, .box [.d (.v (.slice none 0 0))]), (1, .box [int 0]), (2, .box [.ms 6 st.2.length]), (3, .box [sts W]), (4, .box [int 2]),
         (5, .lp [(2, .c (.bp 0 0)), (3, .c (.bp 1 0)), (4, .c (.bp 2 0)), (5, .c (sts W)), (23, .c (.fn 190 [3, 4]))] .ready none (RR Tryz.prog 54 [24] ra15 rb15)), (6, rowv 82 2 r2 (0, 0) st.2)], 7⟩)
      (fun st : Nat × List Rg => (st.1 ≤ W.length / 2 ∧ st.2.length = st.1) ∧ Hd (pvL 2 (W.take (2 * st.1)) = some (fl2 st.2))) (fun st : Nat × List Rg => W.length / 2 - st.1) (0, []) [6] ⟨⟨Nat.zero_le _, rfl⟩, ⟨rfl⟩⟩ ?_ ?_
    · (refine qis ?_ ?_ <;> (repeat' first | exact rfl | (refine qS ?_; constructor)))
    · rintro ⟨k, acc⟩ ⟨⟨hk, hal⟩, ha⟩
      simp only at hk hal ha
      refine Fork.dec (fun hlt => ?_) (fun hlt => ?_)
      · have hlt : k < W.length / 2 := by have : 2 * (k : Int) < W.length := hlt; omega
        (repeat' first | (refine Owe.same ?_; first | refine Owe.o ?_ | refine Owe.mk ?_ ?_) | (refine Fork.same ?_; (first | refine fkD ?_ ?_ | refine fkN ?_ ?_ | refine fkM ?_ ?_) <;> (intro h; try (exfalso; omega))) | refine MvQ.stay ?_)
        have hlen2 : 2 * k + 1 < W.length := by omega
        have e1 : (2 * (k : Int)).toNat = 2 * k := by omega
        refine OpsL.as 28 (.c (sts [W.getD (2 * k) [], W.getD (2 * k + 1) []])) ?_ ?_
        · refine VEq.c _ _ (CEq.sl ?_ (fun i hi => ?_))
          · show (2 * (k : Int) + min 2 ((W.length - (2 * (k : Int)).toNat : Nat) : Int)).toNat - (2 * (k : Int)).toNat = 2
            omega
          · have hi : i < (2 * (k : Int) + min 2 ((W.length - (2 * (k : Int)).toNat : Nat) : Int)).toNat - (2 * (k : Int)).toNat := hi
            show rS (W.getD ((2 * (k : Int)).toNat + i) []) = rS ([W.getD (2 * k) [], W.getD (2 * k + 1) []].getD i [])
            rw [e1]
            have : i = 0 ∨ i = 1 := by omega
            rcases this with rfl | rfl <;> rfl
        have p1 := hPx.h _ (getD_mem (l := W) [] (show 2 * k < W.length by omega))
        have p2 := hPx.h _ (getD_mem (l := W) [] hlen2)
        obtain ⟨v0, e0, n0⟩ := C98 (s := W.getD (2 * k) []) (d := 2) (g := true) ⟨Nat.le_trans p1 (by decide), by decide⟩
        obtain ⟨v1, ev1, n1⟩ := C98 (s := W.getD (2 * k + 1) []) (d := 2) (g := true) ⟨Nat.le_trans p2 (by decide), by decide⟩
        rw [nmV_true] at e0 n0 ev1 n1
        cases h3 : numV (W.getD (2 * k) []) 2 with
        | none =>
          rw [h3] at n0
          rw [hE1 (pvL_take (by omega) h3)]
          refine Ops.yd rfl rfl rfl rfl rfl ?_
          (repeat' first | (refine Owe.same ?_; first | refine Owe.o ?_ | refine Owe.mk ?_ ?_) | (refine Fork.same ?_; (first | refine fkD ?_ ?_ | refine fkN ?_ ?_ | refine fkM ?_ ?_) <;> (intro h; try (exfalso; omega))) | refine MvQ.stay ?_)
          refine And.intro rfl (Exists.intro _ (And.intro rfl ?_))
          (repeat' first | (refine Owe.same ?_; first | refine Owe.o ?_ | refine Owe.mk ?_ ?_) | (refine Fork.same ?_; (first | refine fkY ?_ | refine fkF ?_ | ((first | refine fkD ?_ ?_ | refine fkN ?_ ?_ | refine fkM ?_ ?_) <;> (intro h; try (exfalso; omega))))) | ((first | refine OpsL.same ?_ | refine OpsDL.same ?_); first | refine oK n0 rfl rfl rfl ?_ | refine oK n1 rfl rfl rfl ?_) | refine MvQ.stay ?_)
          refine Exists.intro _ (Exists.intro _ (Exists.intro _ (And.intro rfl ?_)))
          (repeat' first | (refine Owe.same ?_; first | refine Owe.o ?_ | refine Owe.mk ?_ ?_) | (refine Fork.same ?_; (first | refine fkD ?_ ?_ | refine fkN ?_ ?_ | refine fkM ?_ ?_) <;> (intro h; try (exfalso; omega))) | refine MvQ.stay ?_)
          (refine rqK rfl ?_; (repeat' first | exact rfl | (refine qS ?_; constructor)))
        | some a =>
          cases h4 : numV (W.getD (2 * k + 1) []) 2 with
          | none =>
            rw [h3] at n0
            rw [h4] at n1
            rw [hE1 (pvL_take hlen2 h4)]
            refine Ops.yd rfl rfl rfl rfl rfl ?_
            (repeat' first | (refine Owe.same ?_; first | refine Owe.o ?_ | refine Owe.mk ?_ ?_) | (refine Fork.same ?_; (first | refine fkD ?_ ?_ | refine fkN ?_ ?_ | refine fkM ?_ ?_) <;> (intro h; try (exfalso; omega))) | refine MvQ.stay ?_)
            refine And.intro rfl (Exists.intro _ (And.intro rfl ?_))
            (repeat' first | (refine Owe.same ?_; first | refine Owe.o ?_ | refine Owe.mk ?_ ?_) | (refine Fork.same ?_; (first | refine fkY ?_ | refine fkF ?_ | ((first | refine fkD ?_ ?_ | refine fkN ?_ ?_ | refine fkM ?_ ?_) <;> (intro h; try (exfalso; omega))))) | ((first | refine OpsL.same ?_ | refine OpsDL.same ?_); first | refine oK n0 rfl rfl rfl ?_ | refine oK n1 rfl rfl rfl ?_) | refine MvQ.stay ?_)
            refine Exists.intro _ (Exists.intro _ (Exists.intro _ (And.intro rfl ?_)))
            (repeat' first | (refine Owe.same ?_; first | refine Owe.o ?_ | refine Owe.mk ?_ ?_) | (refine Fork.same ?_; (first | refine fkD ?_ ?_ | refine fkN ?_ ?_ | refine fkM ?_ ?_) <;> (intro h; try (exfalso; omega))) | refine MvQ.stay ?_)
            (refine rqK rfl ?_; (repeat' first | exact rfl | (refine qS ?_; constructor)))
          | some b =>
            rw [e0 a h3, h3] at n0
            rw [ev1 b h4, h4] at n1
            have hn1 : pvL 2 (W.take (2 * (k + 1))) = some (fl2 (acc ++ [(a, b)])) := by
              rw [show 2 * (k + 1) = 2 * k + 1 + 1 by omega, tk1 [] hlen2, tk1 [] (show 2 * k < W.length by omega), pvL_app (by rw [pvL_app ha.h, h3]), h4, fl2_app]
              simp
            have hn1 := Hd.mk hn1
            refine Ops.yd rfl rfl rfl rfl rfl ?_
            (repeat' first | (refine Owe.same ?_; first | refine Owe.o ?_ | refine Owe.mk ?_ ?_) | (refine Fork.same ?_; (first | refine fkD ?_ ?_ | refine fkN ?_ ?_ | refine fkM ?_ ?_) <;> (intro h; try (exfalso; omega))) | refine MvQ.stay ?_)
            refine And.intro rfl (Exists.intro _ (And.intro rfl ?_))
            (repeat' first | (refine Owe.same ?_; first | refine Owe.o ?_ | refine Owe.mk ?_ ?_) | (refine Fork.same ?_; (first | refine fkY ?_ | refine fkF ?_ | ((first | refine fkD ?_ ?_ | refine fkN ?_ ?_ | refine fkM ?_ ?_) <;> (intro h; try (exfalso; omega))))) | ((first | refine OpsL.same ?_ | refine OpsDL.same ?_); first | refine oK n0 rfl rfl rfl ?_ | refine oK n1 rfl rfl rfl ?_) | refine MvQ.stay ?_)
            refine Exists.intro _ (Exists.intro _ (Exists.intro _ (And.intro rfl ?_)))
            (repeat' first | (refine Owe.same ?_; first | refine Owe.o ?_ | refine Owe.mk ?_ ?_) | (refine Fork.same ?_; (first | refine fkD ?_ ?_ | refine fkN ?_ ?_ | refine fkM ?_ ?_) <;> (intro h; try (exfalso; omega))) | refine MvQ.stay ?_)
            refine again (k + 1, acc ++ [(a, b)]) [14] ⟨⟨hlt, by simp; omega⟩, hn1⟩ (by show W.length / 2 - (k + 1) < W.length / 2 - k; omega) ?_
            (refine qis ?_ ?_ <;> (repeat' first | exact rfl | (refine qS ?_; constructor)))
            · simp
      · have hk1 : k = W.length / 2 := by have : ¬ 2 * (k : Int) < W.length := hlt; omega
        have hp : pvL 2 W = some (fl2 acc) := by
          have := ha.h
          rw [show 2 * k = W.length by omega, List.take_length] at this; exact this
        have hal2 : acc.length ≤ 1000000 := by omega
        have hfl := fl2_len acc
        have c99 := C99 (l := acc) hal2
        rw [hE2 _ hp]
        by_cases ho : ∃ x ∈ acc, x.1 > x.2
        · rw [decide_eq_true ho] at c99
          rw [show bxV (fl2 acc) = ([], 9) by
            unfold bxV
            rw [if_neg (by omega), if_neg]
            intro hh
            obtain ⟨r, hr, hg⟩ := ho
            obtain ⟨i, hi, rfl⟩ := List.getElem_of_mem hr
            have h1 := hh i (by omega)
            have h2 := fl2_get acc i hi
            simp only [twF] at h1
            rw [h2.1, h2.2, List.getD_eq_getElem?_getD, List.getElem?_eq_getElem hi] at h1
            simp only [Option.getD_some] at h1
            omega]
          (repeat' first | (refine Owe.same ?_; first | refine Owe.o ?_ | refine Owe.mk ?_ ?_) | (refine Fork.same ?_; (first | refine fkD ?_ ?_ | refine fkN ?_ ?_ | refine fkM ?_ ?_) <;> (intro h; try (exfalso; omega))) | refine MvQ.stay ?_)
          refine OpsL.frz 51 _ rfl rfl (Nat.le_refl _) ?_
          (repeat' first | (refine Owe.same ?_; first | refine Owe.o ?_ | refine Owe.mk ?_ ?_) | (refine Fork.same ?_; (first | refine fkY ?_ | refine fkF ?_ | ((first | refine fkD ?_ ?_ | refine fkN ?_ ?_ | refine fkM ?_ ?_) <;> (intro h; try (exfalso; omega))))) | ((first | refine OpsL.same ?_ | refine OpsDL.same ?_); first | refine oK c99 rfl rfl rfl ?_) | refine MvQ.stay ?_)
          (refine rqK rfl ?_; (repeat' first | exact rfl | (refine qS ?_; constructor)))
        · rw [decide_eq_false ho] at c99
          rw [show bxV (fl2 acc) = (acc, 0) by
            unfold bxV
            rw [if_neg (by omega), if_pos, twos_fl2]
            intro i hi
            have h2 := fl2_get acc i (by omega)
            simp only [twF]
            rw [h2.1, h2.2]
            have := getD_mem (l := acc) (0, 0) (show i < acc.length by omega)
            exact Int.not_lt.1 fun hg => ho ⟨_, this, hg⟩]
          (repeat' first | (refine Owe.same ?_; first | refine Owe.o ?_ | refine Owe.mk ?_ ?_) | (refine Fork.same ?_; (first | refine fkD ?_ ?_ | refine fkN ?_ ?_ | refine fkM ?_ ?_) <;> (intro h; try (exfalso; omega))) | refine MvQ.stay ?_)
          refine OpsL.frz 51 _ rfl rfl (Nat.le_refl _) ?_
          refine OpsL.frzX 2 0 6 rfl rfl rfl (Nat.le_refl _) ?_
          (repeat' first | (refine Owe.same ?_; first | refine Owe.o ?_ | refine Owe.mk ?_ ?_) | (refine Fork.same ?_; (first | refine fkY ?_ | refine fkF ?_ | ((first | refine fkD ?_ ?_ | refine fkN ?_ ?_ | refine fkM ?_ ?_) <;> (intro h; try (exfalso; omega))))) | ((first | refine OpsL.same ?_ | refine OpsDL.same ?_); first | refine oK c99 rfl rfl rfl ?_) | refine MvQ.stay ?_)
          (refine rqK rfl ?_; (repeat' first | exact rfl | (refine qS ?_; constructor)))
end Go.Pw

set_option linter.unusedSimpArgs false
set_option linter.unusedVariables false
set_option maxHeartbeats 1000000
namespace Go.Pw
open Go.RowKit Go.Lib
set_option maxRecDepth 2000
open Go Go.Proofs A1 A2 A3 A4
theorem tr_eqB {a b : Tr3} : (decide (a.1 = b.1) && decide (a.2.1 = b.2.1) && decide (a.2.2 = b.2.2)) = decide (a = b) := by
  rw [Bool.eq_iff_iff]; simp [Prod.ext_iff, and_assoc]
theorem C20 {x z u v : Int} {l m : List Tr3} : l.length < 4611686018427387904 → PFD Tryz.prog 20 [.agg [int x, int z, trs l], .agg [int u, int v, trs m]] (vbl (decide ((x, z, l) = (u, v, m)))) := fun hl => by
  refine pi1 fn20 ?_
  (repeat' first | (refine Owe.same ?_; first | refine Owe.o ?_ | refine Owe.mk ?_ ?_) | (refine Fork.same ?_; (first | refine fkD ?_ ?_ | refine fkN ?_ ?_ | refine fkM ?_ ?_) <;> intro h) | refine MvQ.stay ?_)
  · rw [pair_eq (p := (x, z)) (q := (u, v))] at h
    (refine rqK rfl ?_; (repeat' first | exact rfl | (refine qS ?_; constructor))); simp only [decide_eq_false_iff_not]; intro he; simp only [Prod.mk.injEq] at he
    simp at h; exact h.elim (fun h => h he.1) (fun h => h he.2.1)
  · (refine rqK rfl ?_; (repeat' first | exact rfl | (refine qS ?_; constructor))); simp only [decide_eq_false_iff_not]; intro he; simp only [Prod.mk.injEq] at he; obtain ⟨_, _, rfl⟩ := he; exact h rfl
  · rename_i h1
    rw [pair_eq (p := (x, z)) (q := (u, v))] at h1
    have h1 : x = u ∧ z = v := by simpa using h1
    have hlm : l.length = m.length := by omega
    (repeat' first | (refine Owe.same ?_; first | refine Owe.o ?_ | refine Owe.mk ?_ ?_) | (refine Fork.same ?_; (first | refine fkD ?_ ?_ | refine fkN ?_ ?_ | refine fkM ?_ ?_) <;> intro h) | refine MvQ.stay ?_)
    refine Sat.lp0 (fun k : Nat => [(5, vi .i64 k), (2, .c (.rp (lnD x z l))), (3, .c (.rp (lnD u v m)))]) (fun k => k ≤ l.length ∧ ∀ i, i < k → l.getD i (0, 0, 0) = m.getD i (0, 0, 0)) (fun k => l.length - k) 0 ⟨Nat.zero_le _, fun i hi => by omega⟩ (by ((first | refine qen ?_ | refine qvs ?_ | refine qeq ?_ | refine qst ?_ | refine qv ?_ | refine qc ?_ | refine qe ?_ | refine qcs ?_ | skip); (repeat' first | exact rfl | (refine qS ?_; constructor)))) ?_
    intro k hk
    (repeat' first | (refine Owe.same ?_; first | refine Owe.o ?_ | refine Owe.mk ?_ ?_) | (refine Fork.same ?_; (first | refine fkD ?_ ?_ | refine fkN ?_ ?_ | refine fkM ?_ ?_) <;> intro h) | refine MvQ.stay ?_)
    · rw [tr_eqB] at h
      (refine rqK rfl ?_; (repeat' first | exact rfl | (refine qS ?_; constructor))); simp only [decide_eq_false_iff_not]; intro he; simp only [Prod.mk.injEq] at he; obtain ⟨_, _, rfl⟩ := he; simp at h
    · rw [tr_eqB] at h
      refine again0 (k + 1) ⟨by omega, fun i hi => ?_⟩ (by omega) (by ((first | refine qen ?_ | refine qvs ?_ | refine qeq ?_ | refine qst ?_ | refine qv ?_ | refine qc ?_ | refine qe ?_ | refine qcs ?_ | skip); (repeat' first | exact rfl | (refine qS ?_; constructor))))
      rcases Nat.lt_succ_iff_lt_or_eq.1 hi with h3 | rfl
      · exact hk.2 i h3
      · simpa using h
    · (refine rqK rfl ?_; (repeat' first | exact rfl | (refine qS ?_; constructor))); simp only [decide_eq_true_eq]
      rw [h1.1, h1.2, ext_getD (0, 0, 0) hlm fun i hi => hk.2 i (by omega)]
end Go.Pw

set_option linter.unusedSimpArgs false
set_option linter.unusedVariables false
set_option maxHeartbeats 1000000
namespace Go.Pw
open Go.RowKit Go.Lib
set_option maxRecDepth 2000
open Go Go.Proofs A1 A2 A3 A4
theorem nmV_false {s : By} {d n : Int} : nmV s d false = some n ↔ numV s d = some n ∧ 0 ≤ n := by
  unfold nmV
  cases h : numV s d with
  | none => simp
  | some m => simp only [Bool.false_eq_true, false_or]; split <;> simp <;> omega
theorem pvS_three {p : By} {a b c : Int} (hl : (cutG 32 [] p).length = 3) (h1 : nmV ((cutG 32 [] p).getD 0 []) 5 false = some a) (h2 : nmV ((cutG 32 [] p).getD 1 []) 5 true = some b) (h3 : nmV ((cutG 32 [] p).getD 2 []) 5 false = some c) : lkP p = some (a, b, c) := by
  rw [nmV_true] at h2
  rw [nmV_false] at h1 h3
  have : pvS 5 p = some [a, b, c] := by
    show pvL 5 (cutG 32 [] p) = _
    match h : cutG 32 [] p, hl with
    | [x, y, z], _ => rw [h] at h1 h2 h3; simp only [pvL]; rw [show numV x 5 = some a from h1.1, show numV y 5 = some b from h2, show numV z 5 = some c from h3.1]
  unfold lkP; rw [this]; simp [h1.2, h3.2]
theorem lkP_no {p : By} (h : ¬ ((cutG 32 [] p).length = 3 ∧ (nmV ((cutG 32 [] p).getD 0 []) 5 false).isSome ∧ (nmV ((cutG 32 [] p).getD 1 []) 5 true).isSome ∧ (nmV ((cutG 32 [] p).getD 2 []) 5 false).isSome)) : lkP p = none := by
  cases hh : lkP p with
  | none => rfl
  | some q =>
    obtain ⟨h1, h2, h3⟩ := lkP_y hh
    have h1 : pvL 5 (cutG 32 [] p) = some [q.1, q.2.1, q.2.2] := h1
    have hl := pvL_len h1
    refine absurd ?_ h
    rw [nmV_true]
    match hc : cutG 32 [] p, hl with
    | [x, y, z], _ =>
      rw [hc] at h1
      simp only [pvL] at h1
      cases hx : numV x 5 with
      | none => rw [hx] at h1; simp at h1
      | some a =>
        cases hy : numV y 5 with
        | none => rw [hx, hy] at h1; simp at h1
        | some b =>
          cases hz : numV z 5 with
          | none => rw [hx, hy, hz] at h1; simp at h1
          | some c =>
            rw [hx, hy, hz] at h1
            simp only [Option.some.injEq, List.cons.injEq, and_true] at h1
            refine ⟨rfl, ?_, ?_, ?_⟩
            · show (nmV x 5 false).isSome = true
              rw [nmV_false.2 ⟨hx, by omega⟩]; rfl
            · show (numV y 5).isSome = true
              rw [hy]; rfl
            · show (nmV z 5 false).isSome = true
              rw [nmV_false.2 ⟨hz, by omega⟩]; rfl
abbrev lit1 : C := .d (.sl 1 [[dI 1]].length fun i => [[dI 1]].getD i [])
theorem CEq.li_one : CEq lit1 (ints [1]) := CEq.sl rfl (fun i hi => by
  rcases i with _ | i
  · rfl
  exact absurd hi (by simp only [List.length_cons, List.length_nil]; omega))
theorem k1g (n : Int) (g : Bool) (h : decide (n ∈ ([1] : List Int)) = g) : PFD Tryz.prog 186 [.c lit1, vi .i64 n] (vbl g) := by
  have h1 := C186 (l := [1]) (n := n) (by decide)
  rw [h] at h1
  exact PFD.ri0 h1 (VEqs.ris ⟨.c _ _ CEq.li_one, .refl _, trivial⟩)
theorem fillL {p : By} (hp : p.length ≤ 60000) {E0 E1 E2 : Ent} {R : V → Store → Nat → Prop}
    (h : ∀ ok a b c nx, (nx = 5 ∨ nx = 16 ∨ nx = 27 ∨ nx = 38) → (ok = true → lkP p = some (a, b, c)) → (ok = false → lkP p = none) → R (okV ok) ((4, .box [.bp 3 0, .bp 3 1, .bp 3 2]) :: (3, .box [int a, int b, int c]) :: [(0, E0), (1, E1), (2, E2)]) nx) :
    CallS Tryz.prog 95 [sv p, .c lit1, .c (.sb 4 3)] ((4, .box [.bp 3 0, .bp 3 1, .bp 3 2]) :: (3, .box [int 0, int 0, int 0]) :: [(0, E0), (1, E1), (2, E2)]) 5 R := by
  have hw := C94 (s := p) (c := 32) (Nat.le_trans hp (by decide))
  refine CallS.of fn95 rfl ?_
  by_cases hl : (cutG 32 [] p).length = 3
  · have k0 := k1g 0 false (by decide)
    have k1 := k1g 1 true (by decide)
    have k2 := k1g 2 false (by decide)
    have hWx : ∀ x ∈ cutG 32 [] p, x.length ≤ 1000000 := fun x hx => by have := cut_len x hx; simp at this; omega
    obtain ⟨v0, e0, n0⟩ := C98 (s := (cutG 32 [] p).getD 0 []) (d := 5) (g := false) ⟨hWx _ (getD_mem [] (by omega)), by decide⟩
    obtain ⟨v1, e1, n1⟩ := C98 (s := (cutG 32 [] p).getD 1 []) (d := 5) (g := true) ⟨hWx _ (getD_mem [] (by omega)), by decide⟩
    obtain ⟨v2, e2, n2⟩ := C98 (s := (cutG 32 [] p).getD 2 []) (d := 5) (g := false) ⟨hWx _ (getD_mem [] (by omega)), by decide⟩
    have hy := @pvS_three p v0 v1 v2 hl
    have hno := @lkP_no p
    generalize cutG 32 [] p = W at *
    clear hWx hp
    cases h0 : nmV (W.getD 0 []) 5 false with
    | none =>
      rw [h0] at n0 hno
      have hn := hno (fun h => (by cases h.2.1))
      (repeat' first | (refine Owe.same ?_; first | refine Owe.o ?_ | refine Owe.mk ?_ ?_) | (refine Fork.same ?_; (first | refine fkY ?_ | refine fkF ?_ | ((first | refine fkD ?_ ?_ | refine fkN ?_ ?_ | refine fkM ?_ ?_) <;> (intro h; try (exfalso; omega))))) | ((first | refine OpsL.same ?_ | refine OpsDL.same ?_); first | refine oK hw rfl rfl rfl ?_) | refine MvQ.stay ?_)
      refine Sat.rd 4 ?_
      (repeat' first | (refine Owe.same ?_; first | refine Owe.o ?_ | refine Owe.mk ?_ ?_) | (refine Fork.same ?_; (first | refine fkY ?_ | refine fkF ?_ | ((first | refine fkD ?_ ?_ | refine fkN ?_ ?_ | refine fkM ?_ ?_) <;> (intro h; try (exfalso; omega))))) | ((first | refine OpsL.same ?_ | refine OpsDL.same ?_); first | refine oK k0 rfl rfl rfl ?_ | refine oK n0 rfl rfl rfl ?_) | refine MvQ.stay ?_)
      exact h false 0 0 0 16 (by decide) (fun h => (by cases h)) (fun _ => hn)
    | some a =>
      rw [h0] at n0
      cases h1 : nmV (W.getD 1 []) 5 true with
      | none =>
        rw [h1] at n1 hno
        have hn := hno (fun h => (by cases h.2.2.1))
        (repeat' first | (refine Owe.same ?_; first | refine Owe.o ?_ | refine Owe.mk ?_ ?_) | (refine Fork.same ?_; (first | refine fkY ?_ | refine fkF ?_ | ((first | refine fkD ?_ ?_ | refine fkN ?_ ?_ | refine fkM ?_ ?_) <;> (intro h; try (exfalso; omega))))) | ((first | refine OpsL.same ?_ | refine OpsDL.same ?_); first | refine oK hw rfl rfl rfl ?_) | refine MvQ.stay ?_)
        refine Sat.rd 4 ?_
        (repeat' first | (refine Owe.same ?_; first | refine Owe.o ?_ | refine Owe.mk ?_ ?_) | (refine Fork.same ?_; (first | refine fkY ?_ | refine fkF ?_ | ((first | refine fkD ?_ ?_ | refine fkN ?_ ?_ | refine fkM ?_ ?_) <;> (intro h; try (exfalso; omega))))) | ((first | refine OpsL.same ?_ | refine OpsDL.same ?_); first | refine oK k0 rfl rfl rfl ?_ | refine oK n0 rfl rfl rfl ?_ | refine oK k1 rfl rfl rfl ?_ | refine oK n1 rfl rfl rfl ?_) | refine MvQ.stay ?_)
        exact h false v0 0 0 27 (by decide) (fun h => (by cases h)) (fun _ => hn)
      | some b =>
        rw [h1] at n1
        cases h2 : nmV (W.getD 2 []) 5 false with
        | none =>
          rw [h2] at n2 hno
          have hn := hno (fun h => (by cases h.2.2.2))
          (repeat' first | (refine Owe.same ?_; first | refine Owe.o ?_ | refine Owe.mk ?_ ?_) | (refine Fork.same ?_; (first | refine fkY ?_ | refine fkF ?_ | ((first | refine fkD ?_ ?_ | refine fkN ?_ ?_ | refine fkM ?_ ?_) <;> (intro h; try (exfalso; omega))))) | ((first | refine OpsL.same ?_ | refine OpsDL.same ?_); first | refine oK hw rfl rfl rfl ?_) | refine MvQ.stay ?_)
          refine Sat.rd 4 ?_
          (repeat' first | (refine Owe.same ?_; first | refine Owe.o ?_ | refine Owe.mk ?_ ?_) | (refine Fork.same ?_; (first | refine fkY ?_ | refine fkF ?_ | ((first | refine fkD ?_ ?_ | refine fkN ?_ ?_ | refine fkM ?_ ?_) <;> (intro h; try (exfalso; omega))))) | ((first | refine OpsL.same ?_ | refine OpsDL.same ?_); first | refine oK k0 rfl rfl rfl ?_ | refine oK n0 rfl rfl rfl ?_ | refine oK k1 rfl rfl rfl ?_ | refine oK n1 rfl rfl rfl ?_ | refine oK k2 rfl rfl rfl ?_ | refine oK n2 rfl rfl rfl ?_) | refine MvQ.stay ?_)
          exact h false v0 v1 0 38 (by decide) (fun h => (by cases h)) (fun _ => hn)
        | some c =>
          rw [h2] at n2
          have hn := hy (by rw [h0, e0 a h0]) (by rw [h1, e1 b h1]) (by rw [h2, e2 c h2])
          (repeat' first | (refine Owe.same ?_; first | refine Owe.o ?_ | refine Owe.mk ?_ ?_) | (refine Fork.same ?_; (first | refine fkY ?_ | refine fkF ?_ | ((first | refine fkD ?_ ?_ | refine fkN ?_ ?_ | refine fkM ?_ ?_) <;> (intro h; try (exfalso; omega))))) | ((first | refine OpsL.same ?_ | refine OpsDL.same ?_); first | refine oK hw rfl rfl rfl ?_) | refine MvQ.stay ?_)
          refine Sat.rd 4 ?_
          (repeat' first | (refine Owe.same ?_; first | refine Owe.o ?_ | refine Owe.mk ?_ ?_) | (refine Fork.same ?_; (first | refine fkY ?_ | refine fkF ?_ | ((first | refine fkD ?_ ?_ | refine fkN ?_ ?_ | refine fkM ?_ ?_) <;> (intro h; try (exfalso; omega))))) | ((first | refine OpsL.same ?_ | refine OpsDL.same ?_); first | refine oK k0 rfl rfl rfl ?_ | refine oK n0 rfl rfl rfl ?_ | refine oK k1 rfl rfl rfl ?_ | refine oK n1 rfl rfl rfl ?_ | refine oK k2 rfl rfl rfl ?_ | refine oK n2 rfl rfl rfl ?_) | refine MvQ.stay ?_)
          exact h true v0 v1 v2 38 (by decide) (fun _ => hn) (fun h => (by cases h))
  · have hn := lkP_no (p := p) (fun h => hl h.1)
    generalize cutG 32 [] p = W at *
    (repeat' first | (refine Owe.same ?_; first | refine Owe.o ?_ | refine Owe.mk ?_ ?_) | (refine Fork.same ?_; (first | refine fkY ?_ | refine fkF ?_ | ((first | refine fkD ?_ ?_ | refine fkN ?_ ?_ | refine fkM ?_ ?_) <;> (intro h; try (exfalso; omega))))) | ((first | refine OpsL.same ?_ | refine OpsDL.same ?_); first | refine oK hw rfl rfl rfl ?_) | refine MvQ.stay ?_)
    exact h false 0 0 0 5 (by decide) (fun h => (by cases h)) (fun _ => hn)
end Go.Pw

set_option linter.unusedSimpArgs false
set_option linter.unusedVariables false
set_option maxHeartbeats 1000000
namespace Go.Pw
open Go.RowKit Go.Lib
set_option maxRecDepth 2000
open Go Go.Proofs A1 A2 A3 A4
theorem C14 {s : By} : s.length ≤ 100000 → PFD Tryz.prog 14 [sv s] (.tup [lnv (plE s).1, vi .i64 (plE s).2]) := fun hs => by
  have hz : (bs s).size = s.length := bs_size s
  by_cases hb : 60000 < s.length
  · rw [plE_big hb]
    refine pi2 fn14 ?_
    (repeat' first | (refine Owe.same ?_; first | refine Owe.o ?_ | refine Owe.mk ?_ ?_) | (refine Fork.same ?_; (first | refine fkD ?_ ?_ | refine fkN ?_ ?_ | refine fkM ?_ ?_) <;> (intro h; try (exfalso; omega))) | refine MvQ.stay ?_)
    (refine rqK rfl ?_; (repeat' first | exact rfl | (refine qS ?_; constructor)))
  have h94 := C94 (s := s) (c := 59) (by omega)
  have hPl := cut_count (c := 59) (l := s) (acc := [])
  have hPx : Hd (∀ x ∈ cutG 59 [] s, x.length ≤ 60000) := ⟨fun x hx => by have := cut_len x hx; simp at this; omega⟩
  obtain ⟨h0, R, hP⟩ : ∃ h0 R, cutG 59 [] s = h0 :: R := by
    cases hc : cutG 59 [] s with
    | nil => exact absurd hc cutG_ne
    | cons x r => exact ⟨x, r, rfl⟩
  rw [plE_of hb hP]
  rw [hP] at h94 hPx hPl
  have hPl : R.length ≤ 60001 := by rw [List.length_cons] at hPl; omega
  clear hP
  have hsl : (h0 :: R).length - Int.toNat 1 = R.length := rfl
  refine pi2 fn14 ?_
  (repeat' first | (refine Owe.same ?_; first | refine Owe.o ?_ | refine Owe.mk ?_ ?_) | (refine Fork.same ?_; (first | refine fkY ?_ | refine fkF ?_ | ((first | refine fkD ?_ ?_ | refine fkN ?_ ?_ | refine fkM ?_ ?_) <;> (intro h; try (exfalso; omega))))) | ((first | refine OpsL.same ?_ | refine OpsDL.same ?_); first | refine oK h94 rfl rfl rfl ?_) | refine MvQ.stay ?_)
  refine Ops.cs rfl rfl (fillH (hPx.h h0 (by simp)) ?_)
  intro ok a b nx hnx hy hn
  rcases hnx with rfl | rfl | rfl
  · (repeat' first | (refine Owe.same ?_; first | refine Owe.o ?_ | refine Owe.mk ?_ ?_) | (refine Fork.same ?_; (first | refine fkD ?_ ?_ | refine fkN ?_ ?_ | refine fkM ?_ ?_) <;> (intro h; try (exfalso; omega))) | refine MvQ.stay ?_)
    refine Sat.nilB 1 2 160 3 (fun i => r3 (([] : List Tr3).getD i (0, 0, 0))) rfl rfl ?_
    refine Sat.lp (fun st : Nat × Bool × List Tr3 => ⟨[(2, .c (.bp 0 0)), (4, .c (.bp 1 0)), (29, .c (sts R)), (30, vi .i64 R.length), (31, vi .i64 (st.1 : Int)), (6, vbl st.2.1)],
        [(0, .box [int 0, int 0, .d (.v (.slice none 0 0))]), (1, .box [int a, int b, .ms 2 st.2.2.length]), (2, rowv 160 3 r3 (0, 0, 0) st.2.2)], 3⟩)
      (fun st : Nat × Bool × List Tr3 => (st.1 ≤ R.length ∧ st.2.2.length = st.1) ∧ Hd (st.2.1 = true → hdP h0 = some (a, b) ∧ alL lkP (R.take st.1) = some st.2.2) ∧ Hd (st.2.1 = false → plV h0 R = ((0, 0, []), 7))) (fun st : Nat × Bool × List Tr3 => R.length - st.1) (0, ok, []) [0, 1, 3] ⟨⟨by simp, rfl⟩, ⟨fun h => ⟨hy h, rfl⟩⟩, ⟨fun h => plV_h (hn h)⟩⟩ ?_ ?_
    · (refine qis ?_ ?_ <;> (repeat' first | exact rfl | (refine qS ?_; constructor)))
      cases ok
      · exact VEq.c _ _ .fls
      · exact VEq.c _ _ .tru
    · rintro ⟨k, o, acc⟩ ⟨⟨hk, hal⟩, hx, ha⟩
      simp only at hk hal hx ha
      refine Fork.dec (fun hlt => ?_) (fun hlt => ?_)
      · have hk2 : k < R.length := by have hlt : (k : Int) < R.length := hlt; omega
        have hpl : (R.getD (k : Int).toNat []).length ≤ 60000 := hPx.h _ (List.mem_cons_of_mem h0 (getD_mem (l := R) [] hk2))
        cases o with
        | true =>
          (repeat' first | (refine Owe.same ?_; first | refine Owe.o ?_ | refine Owe.mk ?_ ?_) | (refine Fork.same ?_; (first | refine fkD ?_ ?_ | refine fkN ?_ ?_ | refine fkM ?_ ?_) <;> (intro h; try (exfalso; omega))) | refine MvQ.stay ?_)
          refine Ops.cs rfl rfl (fillL hpl ?_)
          intro ok2 x y z nx2 hnx2 hy2 hn2
          cases ok2 with
          | true =>
            have hn1 : hdP h0 = some (a, b) ∧ alL lkP (R.take (k + 1)) = some (acc ++ [(x, y, z)]) := ⟨(hx.h rfl).1, by rw [tk1 [] hk2, alL_app (hx.h rfl).2, show lkP (R.getD k []) = some (x, y, z) from hy2 rfl]⟩
            rcases hnx2 with rfl | rfl | rfl | rfl
            · (repeat' first | (refine Owe.same ?_; first | refine Owe.o ?_ | refine Owe.mk ?_ ?_) | (refine Fork.same ?_; (first | refine fkD ?_ ?_ | refine fkN ?_ ?_ | refine fkM ?_ ?_) <;> (intro h; try (exfalso; omega))) | refine MvQ.stay ?_)
              refine again (k + 1, true, acc ++ [(x, y, z)]) [0, 1, 5] ⟨⟨hk2, by simp; omega⟩, ⟨fun _ => hn1⟩, ⟨fun h => (by cases h)⟩⟩ (by show R.length - (k + 1) < R.length - k; omega) ?_
              (refine qis ?_ ?_ <;> (repeat' first | exact rfl | (refine qS ?_; constructor)))
              all_goals first | (simp; done) | exact VEq.c _ _ .fls | exact VEq.c _ _ .tru
            · (repeat' first | (refine Owe.same ?_; first | refine Owe.o ?_ | refine Owe.mk ?_ ?_) | (refine Fork.same ?_; (first | refine fkD ?_ ?_ | refine fkN ?_ ?_ | refine fkM ?_ ?_) <;> (intro h; try (exfalso; omega))) | refine MvQ.stay ?_)
              refine again (k + 1, true, acc ++ [(x, y, z)]) [0, 1, 16] ⟨⟨hk2, by simp; omega⟩, ⟨fun _ => hn1⟩, ⟨fun h => (by cases h)⟩⟩ (by show R.length - (k + 1) < R.length - k; omega) ?_
              (refine qis ?_ ?_ <;> (repeat' first | exact rfl | (refine qS ?_; constructor)))
              all_goals first | (simp; done) | exact VEq.c _ _ .fls | exact VEq.c _ _ .tru
            · (repeat' first | (refine Owe.same ?_; first | refine Owe.o ?_ | refine Owe.mk ?_ ?_) | (refine Fork.same ?_; (first | refine fkD ?_ ?_ | refine fkN ?_ ?_ | refine fkM ?_ ?_) <;> (intro h; try (exfalso; omega))) | refine MvQ.stay ?_)
              refine again (k + 1, true, acc ++ [(x, y, z)]) [0, 1, 27] ⟨⟨hk2, by simp; omega⟩, ⟨fun _ => hn1⟩, ⟨fun h => (by cases h)⟩⟩ (by show R.length - (k + 1) < R.length - k; omega) ?_
              (refine qis ?_ ?_ <;> (repeat' first | exact rfl | (refine qS ?_; constructor)))
              all_goals first | (simp; done) | exact VEq.c _ _ .fls | exact VEq.c _ _ .tru
            · (repeat' first | (refine Owe.same ?_; first | refine Owe.o ?_ | refine Owe.mk ?_ ?_) | (refine Fork.same ?_; (first | refine fkD ?_ ?_ | refine fkN ?_ ?_ | refine fkM ?_ ?_) <;> (intro h; try (exfalso; omega))) | refine MvQ.stay ?_)
              refine again (k + 1, true, acc ++ [(x, y, z)]) [0, 1, 38] ⟨⟨hk2, by simp; omega⟩, ⟨fun _ => hn1⟩, ⟨fun h => (by cases h)⟩⟩ (by show R.length - (k + 1) < R.length - k; omega) ?_
              (refine qis ?_ ?_ <;> (repeat' first | exact rfl | (refine qS ?_; constructor)))
              all_goals first | (simp; done) | exact VEq.c _ _ .fls | exact VEq.c _ _ .tru
          | false =>
            have hbad : plV h0 R = ((0, 0, []), 7) := plV_r (alL_take hk2 (hn2 rfl))
            rcases hnx2 with rfl | rfl | rfl | rfl
            · (repeat' first | (refine Owe.same ?_; first | refine Owe.o ?_ | refine Owe.mk ?_ ?_) | (refine Fork.same ?_; (first | refine fkD ?_ ?_ | refine fkN ?_ ?_ | refine fkM ?_ ?_) <;> (intro h; try (exfalso; omega))) | refine MvQ.stay ?_)
              refine again (k + 1, false, acc ++ [(x, y, z)]) [0, 1, 5] ⟨⟨hk2, by simp; omega⟩, ⟨fun h => (by cases h)⟩, ⟨fun _ => hbad⟩⟩ (by show R.length - (k + 1) < R.length - k; omega) ?_
              (refine qis ?_ ?_ <;> (repeat' first | exact rfl | (refine qS ?_; constructor)))
              all_goals first | (simp; done) | exact VEq.c _ _ .fls | exact VEq.c _ _ .tru
            · (repeat' first | (refine Owe.same ?_; first | refine Owe.o ?_ | refine Owe.mk ?_ ?_) | (refine Fork.same ?_; (first | refine fkD ?_ ?_ | refine fkN ?_ ?_ | refine fkM ?_ ?_) <;> (intro h; try (exfalso; omega))) | refine MvQ.stay ?_)
              refine again (k + 1, false, acc ++ [(x, y, z)]) [0, 1, 16] ⟨⟨hk2, by simp; omega⟩, ⟨fun h => (by cases h)⟩, ⟨fun _ => hbad⟩⟩ (by show R.length - (k + 1) < R.length - k; omega) ?_
              (refine qis ?_ ?_ <;> (repeat' first | exact rfl | (refine qS ?_; constructor)))
              all_goals first | (simp; done) | exact VEq.c _ _ .fls | exact VEq.c _ _ .tru
            · (repeat' first | (refine Owe.same ?_; first | refine Owe.o ?_ | refine Owe.mk ?_ ?_) | (refine Fork.same ?_; (first | refine fkD ?_ ?_ | refine fkN ?_ ?_ | refine fkM ?_ ?_) <;> (intro h; try (exfalso; omega))) | refine MvQ.stay ?_)
              refine again (k + 1, false, acc ++ [(x, y, z)]) [0, 1, 27] ⟨⟨hk2, by simp; omega⟩, ⟨fun h => (by cases h)⟩, ⟨fun _ => hbad⟩⟩ (by show R.length - (k + 1) < R.length - k; omega) ?_
              (refine qis ?_ ?_ <;> (repeat' first | exact rfl | (refine qS ?_; constructor)))
              all_goals first | (simp; done) | exact VEq.c _ _ .fls | exact VEq.c _ _ .tru
            · (repeat' first | (refine Owe.same ?_; first | refine Owe.o ?_ | refine Owe.mk ?_ ?_) | (refine Fork.same ?_; (first | refine fkD ?_ ?_ | refine fkN ?_ ?_ | refine fkM ?_ ?_) <;> (intro h; try (exfalso; omega))) | refine MvQ.stay ?_)
              refine again (k + 1, false, acc ++ [(x, y, z)]) [0, 1, 38] ⟨⟨hk2, by simp; omega⟩, ⟨fun h => (by cases h)⟩, ⟨fun _ => hbad⟩⟩ (by show R.length - (k + 1) < R.length - k; omega) ?_
              (refine qis ?_ ?_ <;> (repeat' first | exact rfl | (refine qS ?_; constructor)))
              all_goals first | (simp; done) | exact VEq.c _ _ .fls | exact VEq.c _ _ .tru
        | false =>
          have hbad := ha.h rfl
          (repeat' first | (refine Owe.same ?_; first | refine Owe.o ?_ | refine Owe.mk ?_ ?_) | (refine Fork.same ?_; (first | refine fkD ?_ ?_ | refine fkN ?_ ?_ | refine fkM ?_ ?_) <;> (intro h; try (exfalso; omega))) | refine MvQ.stay ?_)
          refine Ops.cs rfl rfl (fillL hpl ?_)
          intro ok2 x y z nx2 hnx2 hy2 hn2
          cases ok2 with
          | true =>
            rcases hnx2 with rfl | rfl | rfl | rfl
            · (repeat' first | (refine Owe.same ?_; first | refine Owe.o ?_ | refine Owe.mk ?_ ?_) | (refine Fork.same ?_; (first | refine fkD ?_ ?_ | refine fkN ?_ ?_ | refine fkM ?_ ?_) <;> (intro h; try (exfalso; omega))) | refine MvQ.stay ?_)
              refine again (k + 1, false, acc ++ [(x, y, z)]) [0, 1, 5] ⟨⟨hk2, by simp; omega⟩, ⟨fun h => (by cases h)⟩, ⟨fun _ => hbad⟩⟩ (by show R.length - (k + 1) < R.length - k; omega) ?_
              (refine qis ?_ ?_ <;> (repeat' first | exact rfl | (refine qS ?_; constructor)))
              all_goals first | (simp; done) | exact VEq.c _ _ .fls | exact VEq.c _ _ .tru
            · (repeat' first | (refine Owe.same ?_; first | refine Owe.o ?_ | refine Owe.mk ?_ ?_) | (refine Fork.same ?_; (first | refine fkD ?_ ?_ | refine fkN ?_ ?_ | refine fkM ?_ ?_) <;> (intro h; try (exfalso; omega))) | refine MvQ.stay ?_)
              refine again (k + 1, false, acc ++ [(x, y, z)]) [0, 1, 16] ⟨⟨hk2, by simp; omega⟩, ⟨fun h => (by cases h)⟩, ⟨fun _ => hbad⟩⟩ (by show R.length - (k + 1) < R.length - k; omega) ?_
              (refine qis ?_ ?_ <;> (repeat' first | exact rfl | (refine qS ?_; constructor)))
              all_goals first | (simp; done) | exact VEq.c _ _ .fls | exact VEq.c _ _ .tru
            · (repeat' first | (refine Owe.same ?_; first | refine Owe.o ?_ | refine Owe.mk ?_ ?_) | (refine Fork.same ?_; (first | refine fkD ?_ ?_ | refine fkN ?_ ?_ | refine fkM ?_ ?_) <;> (intro h; try (exfalso; omega))) | refine MvQ.stay ?_)
              refine again (k + 1, false, acc ++ [(x, y, z)]) [0, 1, 27] ⟨⟨hk2, by simp; omega⟩, ⟨fun h => (by cases h)⟩, ⟨fun _ => hbad⟩⟩ (by show R.length - (k + 1) < R.length - k; omega) ?_
              (refine qis ?_ ?_ <;> (repeat' first | exact rfl | (refine qS ?_; constructor)))
              all_goals first | (simp; done) | exact VEq.c _ _ .fls | exact VEq.c _ _ .tru
            · (repeat' first | (refine Owe.same ?_; first | refine Owe.o ?_ | refine Owe.mk ?_ ?_) | (refine Fork.same ?_; (first | refine fkD ?_ ?_ | refine fkN ?_ ?_ | refine fkM ?_ ?_) <;> (intro h; try (exfalso; omega))) | refine MvQ.stay ?_)
              refine again (k + 1, false, acc ++ [(x, y, z)]) [0, 1, 38] ⟨⟨hk2, by simp; omega⟩, ⟨fun h => (by cases h)⟩, ⟨fun _ => hbad⟩⟩ (by show R.length - (k + 1) < R.length - k; omega) ?_
              (refine qis ?_ ?_ <;> (repeat' first | exact rfl | (refine qS ?_; constructor)))
              all_goals first | (simp; done) | exact VEq.c _ _ .fls | exact VEq.c _ _ .tru
          | false =>
            rcases hnx2 with rfl | rfl | rfl | rfl
            · (repeat' first | (refine Owe.same ?_; first | refine Owe.o ?_ | refine Owe.mk ?_ ?_) | (refine Fork.same ?_; (first | refine fkD ?_ ?_ | refine fkN ?_ ?_ | refine fkM ?_ ?_) <;> (intro h; try (exfalso; omega))) | refine MvQ.stay ?_)
              refine again (k + 1, false, acc ++ [(x, y, z)]) [0, 1, 5] ⟨⟨hk2, by simp; omega⟩, ⟨fun h => (by cases h)⟩, ⟨fun _ => hbad⟩⟩ (by show R.length - (k + 1) < R.length - k; omega) ?_
              (refine qis ?_ ?_ <;> (repeat' first | exact rfl | (refine qS ?_; constructor)))
              all_goals first | (simp; done) | exact VEq.c _ _ .fls | exact VEq.c _ _ .tru
            · (repeat' first | (refine Owe.same ?_; first | refine Owe.o ?_ | refine Owe.mk ?_ ?_) | (refine Fork.same ?_; (first | refine fkD ?_ ?_ | refine fkN ?_ ?_ | refine fkM ?_ ?_) <;> (intro h; try (exfalso; omega))) | refine MvQ.stay ?_)
              refine again (k + 1, false, acc ++ [(x, y, z)]) [0, 1, 16] ⟨⟨hk2, by simp; omega⟩, ⟨fun h => (by cases h)⟩, ⟨fun _ => hbad⟩⟩ (by show R.length - (k + 1) < R.length - k; omega) ?_
              (refine qis ?_ ?_ <;> (repeat' first | exact rfl | (refine qS ?_; constructor)))
              all_goals first | (simp; done) | exact VEq.c _ _ .fls | exact VEq.c _ _ .tru
            · (repeat' first | (refine Owe.same ?_; first | refine Owe.o ?_ | refine Owe.mk ?_ ?_) | (refine Fork.same ?_; (first | refine fkD ?_ ?_ | refine fkN ?_ ?_ | refine fkM ?_ ?_) <;> (intro h; try (exfalso; omega))) | refine MvQ.stay ?_)
              refine again (k + 1, false, acc ++ [(x, y, z)]) [0, 1, 27] ⟨⟨hk2, by simp; omega⟩, ⟨fun h => (by cases h)⟩, ⟨fun _ => hbad⟩⟩ (by show R.length - (k + 1) < R.length - k; omega) ?_
              (refine qis ?_ ?_ <;> (repeat' first | exact rfl | (refine qS ?_; constructor)))
              all_goals first | (simp; done) | exact VEq.c _ _ .fls | exact VEq.c _ _ .tru
            · (repeat' first | (refine Owe.same ?_; first | refine Owe.o ?_ | refine Owe.mk ?_ ?_) | (refine Fork.same ?_; (first | refine fkD ?_ ?_ | refine fkN ?_ ?_ | refine fkM ?_ ?_) <;> (intro h; try (exfalso; omega))) | refine MvQ.stay ?_)
              refine again (k + 1, false, acc ++ [(x, y, z)]) [0, 1, 38] ⟨⟨hk2, by simp; omega⟩, ⟨fun h => (by cases h)⟩, ⟨fun _ => hbad⟩⟩ (by show R.length - (k + 1) < R.length - k; omega) ?_
              (refine qis ?_ ?_ <;> (repeat' first | exact rfl | (refine qS ?_; constructor)))
              all_goals first | (simp; done) | exact VEq.c _ _ .fls | exact VEq.c _ _ .tru
      · have hk1 : k = R.length := by
          have hlt : ¬ (k : Int) < R.length := hlt
          omega
        subst hk1
        have hacc : acc.length ≤ 1000000 := by omega
        cases o with
        | true =>
          obtain ⟨hh, ha2⟩ := hx.h rfl
          rw [List.take_length] at ha2
          rw [plV_y hh ha2]
          have h96 := C96 (x := a) (z := b) (l := acc) hacc
          by_cases h00 : (lineE a b acc).2 = 0
          · rw [if_pos h00]
            rw [h00] at h96
            (repeat' first | (refine Owe.same ?_; first | refine Owe.o ?_ | refine Owe.mk ?_ ?_) | (refine Fork.same ?_; (first | refine fkD ?_ ?_ | refine fkN ?_ ?_ | refine fkM ?_ ?_) <;> intro h))
            refine MvQ.frzX 1 2 2 rfl rfl rfl (Nat.le_refl _) ?_
            (repeat' first | (refine Owe.same ?_; first | refine Owe.o ?_ | refine Owe.mk ?_ ?_) | (refine Fork.same ?_; (first | refine fkY ?_ | refine fkF ?_ | ((first | refine fkD ?_ ?_ | refine fkN ?_ ?_ | refine fkM ?_ ?_) <;> (intro h; try (exfalso; omega))))) | ((first | refine OpsL.same ?_ | refine OpsDL.same ?_); first | refine oK h96 rfl rfl rfl ?_) | refine MvQ.stay ?_)
            (refine rqK rfl ?_; (repeat' first | exact rfl | (refine qS ?_; constructor)))
          · rw [if_neg h00]
            (repeat' first | (refine Owe.same ?_; first | refine Owe.o ?_ | refine Owe.mk ?_ ?_) | (refine Fork.same ?_; (first | refine fkD ?_ ?_ | refine fkN ?_ ?_ | refine fkM ?_ ?_) <;> intro h))
            refine MvQ.frzX 1 2 2 rfl rfl rfl (Nat.le_refl _) ?_
            (repeat' first | (refine Owe.same ?_; first | refine Owe.o ?_ | refine Owe.mk ?_ ?_) | (refine Fork.same ?_; (first | refine fkY ?_ | refine fkF ?_ | ((first | refine fkD ?_ ?_ | refine fkN ?_ ?_ | refine fkM ?_ ?_) <;> (intro h; try (exfalso; omega))))) | ((first | refine OpsL.same ?_ | refine OpsDL.same ?_); first | refine oK h96 rfl rfl rfl ?_) | refine MvQ.stay ?_)
            (refine rqK rfl ?_; (repeat' first | exact rfl | (refine qS ?_; constructor)))
        | false =>
          rw [ha.h rfl]
          (repeat' first | (refine Owe.same ?_; first | refine Owe.o ?_ | refine Owe.mk ?_ ?_) | (refine Fork.same ?_; (first | refine fkD ?_ ?_ | refine fkN ?_ ?_ | refine fkM ?_ ?_) <;> intro h))
          refine MvQ.frzX 1 2 2 rfl rfl rfl (Nat.le_refl _) ?_
          (repeat' first | (refine Owe.same ?_; first | refine Owe.o ?_ | refine Owe.mk ?_ ?_) | (refine Fork.same ?_; (first | refine fkD ?_ ?_ | refine fkN ?_ ?_ | refine fkM ?_ ?_) <;> (intro h; try (exfalso; omega))) | refine MvQ.stay ?_)
          · (refine rqK rfl ?_; (repeat' first | exact rfl | (refine qS ?_; constructor)))
          · exact absurd h (by simp)
  · (repeat' first | (refine Owe.same ?_; first | refine Owe.o ?_ | refine Owe.mk ?_ ?_) | (refine Fork.same ?_; (first | refine fkD ?_ ?_ | refine fkN ?_ ?_ | refine fkM ?_ ?_) <;> (intro h; try (exfalso; omega))) | refine MvQ.stay ?_)
    refine Sat.nilB 1 2 160 3 (fun i => r3 (([] : List Tr3).getD i (0, 0, 0))) rfl rfl ?_
    refine Sat.lp (fun st : Nat × Bool × List Tr3 => ⟨[(2, .c (.bp 0 0)), (4, .c (.bp 1 0)), (29, .c (sts R)), (30, vi .i64 R.length), (31, vi .i64 (st.1 : Int)), (6, vbl st.2.1)],
        [(0, .box [int 0, int 0, .d (.v (.slice none 0 0))]), (1, .box [int a, int b, .ms 2 st.2.2.length]), (2, rowv 160 3 r3 (0, 0, 0) st.2.2)], 3⟩)
      (fun st : Nat × Bool × List Tr3 => (st.1 ≤ R.length ∧ st.2.2.length = st.1) ∧ Hd (st.2.1 = true → hdP h0 = some (a, b) ∧ alL lkP (R.take st.1) = some st.2.2) ∧ Hd (st.2.1 = false → plV h0 R = ((0, 0, []), 7))) (fun st : Nat × Bool × List Tr3 => R.length - st.1) (0, ok, []) [0, 1, 14] ⟨⟨by simp, rfl⟩, ⟨fun h => ⟨hy h, rfl⟩⟩, ⟨fun h => plV_h (hn h)⟩⟩ ?_ ?_
    · (refine qis ?_ ?_ <;> (repeat' first | exact rfl | (refine qS ?_; constructor)))
      cases ok
      · exact VEq.c _ _ .fls
      · exact VEq.c _ _ .tru
    · rintro ⟨k, o, acc⟩ ⟨⟨hk, hal⟩, hx, ha⟩
      simp only at hk hal hx ha
      refine Fork.dec (fun hlt => ?_) (fun hlt => ?_)
      · have hk2 : k < R.length := by have hlt : (k : Int) < R.length := hlt; omega
        have hpl : (R.getD (k : Int).toNat []).length ≤ 60000 := hPx.h _ (List.mem_cons_of_mem h0 (getD_mem (l := R) [] hk2))
        cases o with
        | true =>
          (repeat' first | (refine Owe.same ?_; first | refine Owe.o ?_ | refine Owe.mk ?_ ?_) | (refine Fork.same ?_; (first | refine fkD ?_ ?_ | refine fkN ?_ ?_ | refine fkM ?_ ?_) <;> (intro h; try (exfalso; omega))) | refine MvQ.stay ?_)
          refine Ops.cs rfl rfl (fillL hpl ?_)
          intro ok2 x y z nx2 hnx2 hy2 hn2
          cases ok2 with
          | true =>
            have hn1 : hdP h0 = some (a, b) ∧ alL lkP (R.take (k + 1)) = some (acc ++ [(x, y, z)]) := ⟨(hx.h rfl).1, by rw [tk1 [] hk2, alL_app (hx.h rfl).2, show lkP (R.getD k []) = some (x, y, z) from hy2 rfl]⟩
            rcases hnx2 with rfl | rfl | rfl | rfl
            · (repeat' first | (refine Owe.same ?_; first | refine Owe.o ?_ | refine Owe.mk ?_ ?_) | (refine Fork.same ?_; (first | refine fkD ?_ ?_ | refine fkN ?_ ?_ | refine fkM ?_ ?_) <;> (intro h; try (exfalso; omega))) | refine MvQ.stay ?_)
              refine again (k + 1, true, acc ++ [(x, y, z)]) [0, 1, 5] ⟨⟨hk2, by simp; omega⟩, ⟨fun _ => hn1⟩, ⟨fun h => (by cases h)⟩⟩ (by show R.length - (k + 1) < R.length - k; omega) ?_
              (refine qis ?_ ?_ <;> (repeat' first | exact rfl | (refine qS ?_; constructor)))
              all_goals first | (simp; done) | exact VEq.c _ _ .fls | exact VEq.c _ _ .tru
            · (repeat' first | (refine Owe.same ?_; first | refine Owe.o ?_ | refine Owe.mk ?_ ?_) | (refine Fork.same ?_; (first | refine fkD ?_ ?_ | refine fkN ?_ ?_ | refine fkM ?_ ?_) <;> (intro h; try (exfalso; omega))) | refine MvQ.stay ?_)
              refine again (k + 1, true, acc ++ [(x, y, z)]) [0, 1, 16] ⟨⟨hk2, by simp; omega⟩, ⟨fun _ => hn1⟩, ⟨fun h => (by cases h)⟩⟩ (by show R.length - (k + 1) < R.length - k; omega) ?_
              (refine qis ?_ ?_ <;> (repeat' first | exact rfl | (refine qS ?_; constructor)))
              all_goals first | (simp; done) | exact VEq.c _ _ .fls | exact VEq.c _ _ .tru
            · (repeat' first | (refine Owe.same ?_; first | refine Owe.o ?_ | refine Owe.mk ?_ ?_) | (refine Fork.same ?_; (first | refine fkD ?_ ?_ | refine fkN ?_ ?_ | refine fkM ?_ ?_) <;> (intro h; try (exfalso; omega))) | refine MvQ.stay ?_)
              refine again (k + 1, true, acc ++ [(x, y, z)]) [0, 1, 27] ⟨⟨hk2, by simp; omega⟩, ⟨fun _ => hn1⟩, ⟨fun h => (by cases h)⟩⟩ (by show R.length - (k + 1) < R.length - k; omega) ?_
              (refine qis ?_ ?_ <;> (repeat' first | exact rfl | (refine qS ?_; constructor)))
              all_goals first | (simp; done) | exact VEq.c _ _ .fls | exact VEq.c _ _ .tru
            · (repeat' first | (refine Owe.same ?_; first | refine Owe.o ?_ | refine Owe.mk ?_ ?_) | (refine Fork.same ?_; (first | refine fkD ?_ ?_ | refine fkN ?_ ?_ | refine fkM ?_ ?_) <;> (intro h; try (exfalso; omega))) | refine MvQ.stay ?_)
              refine again (k + 1, true, acc ++ [(x, y, z)]) [0, 1, 38] ⟨⟨hk2, by simp; omega⟩, ⟨fun _ => hn1⟩, ⟨fun h => (by cases h)⟩⟩ (by show R.length - (k + 1) < R.length - k; omega) ?_
              (refine qis ?_ ?_ <;> (repeat' first | exact rfl | (refine qS ?_; constructor)))
              all_goals first | (simp; done) | exact VEq.c _ _ .fls | exact VEq.c _ _ .tru
          | false =>
            have hbad : plV h0 R = ((0, 0, []), 7) := plV_r (alL_take hk2 (hn2 rfl))
            rcases hnx2 with rfl | rfl | rfl | rfl
            · (repeat' first | (refine Owe.same ?_; first | refine Owe.o ?_ | refine Owe.mk ?_ ?_) | (refine Fork.same ?_; (first | refine fkD ?_ ?_ | refine fkN ?_ ?_ | refine fkM ?_ ?_) <;> (intro h; try (exfalso; omega))) | refine MvQ.stay ?_)
              refine again (k + 1, false, acc ++ [(x, y, z)]) [0, 1, 5] ⟨⟨hk2, by simp; omega⟩, ⟨fun h => (by cases h)⟩, ⟨fun _ => hbad⟩⟩ (by show R.length - (k + 1) < R.length - k; omega) ?_
              (refine qis ?_ ?_ <;> (repeat' first | exact rfl | (refine qS ?_; constructor)))
              all_goals first | (simp; done) | exact VEq.c _ _ .fls | exact VEq.c _ _ .tru
            · (repeat' first | (refine Owe.same ?_; first | refine Owe.o ?_ | refine Owe.mk ?_ ?_) | (refine Fork.same ?_; (first | refine fkD ?_ ?_ | refine fkN ?_ ?_ | refine fkM ?_ ?_) <;> (intro h; try (exfalso; omega))) | refine MvQ.stay ?_)
              refine again (k + 1, false, acc ++ [(x, y, z)]) [0, 1, 16] ⟨⟨hk2, by simp; omega⟩, ⟨fun h => (by cases h)⟩, ⟨fun _ => hbad⟩⟩ (by show R.length - (k + 1) < R.length - k; omega) ?_
              (refine qis ?_ ?_ <;> (repeat' first | exact rfl | (refine qS ?_; constructor)))
              all_goals first | (simp; done) | exact VEq.c _ _ .fls | exact VEq.c _ _ .tru
            · (repeat' first | (refine Owe.same ?_; first | refine Owe.o ?_ | refine Owe.mk ?_ ?_) | (refine Fork.same ?_; (first | refine fkD ?_ ?_ | refine fkN ?_ ?_ | refine fkM ?_ ?_) <;> (intro h; try (exfalso; omega))) | refine MvQ.stay ?_)
              refine again (k + 1, false, acc ++ [(x, y, z)]) [0, 1, 27] ⟨⟨hk2, by simp; omega⟩, ⟨fun h => (by cases h)⟩, ⟨fun _ => hbad⟩⟩ (by show R.length - (k + 1) < R.length - k; omega) ?_
              (refine qis ?_ ?_ <;> (repeat' first | exact rfl | (refine qS ?_; constructor)))
              all_goals first | (simp; done) | exact VEq.c _ _ .fls | exact VEq.c _ _ .tru
            · (repeat' first | (refine Owe.same ?_; first | refine Owe.o ?_ | refine Owe.mk ?_ ?_) | (refine Fork.same ?_; (first | refine fkD ?_ ?_ | refine fkN ?_ ?_ | refine fkM ?_ ?_) <;> (intro h; try (exfalso; omega))) | refine MvQ.stay ?_)
              refine again (k + 1, false, acc ++ [(x, y, z)]) [0, 1, 38] ⟨⟨hk2, by simp; omega⟩, ⟨fun h => (by cases h)⟩, ⟨fun _ => hbad⟩⟩ (by show R.length - (k + 1) < R.length - k; omega) ?_
              (refine qis ?_ ?_ <;> (repeat' first | exact rfl | (refine qS ?_; constructor)))
              all_goals first | (simp; done) | exact VEq.c _ _ .fls | exact VEq.c _ _ .tru
        | false =>
          have hbad := ha.h rfl
          (repeat' first | (refine Owe.same ?_; first | refine Owe.o ?_ | refine Owe.mk ?_ ?_) | (refine Fork.same ?_; (first | refine fkD ?_ ?_ | refine fkN ?_ ?_ | refine fkM ?_ ?_) <;> (intro h; try (exfalso; omega))) | refine MvQ.stay ?_)
          refine Ops.cs rfl rfl (fillL hpl ?_)
          intro ok2 x y z nx2 hnx2 hy2 hn2
          cases ok2 with
          | true =>
            rcases hnx2 with rfl | rfl | rfl | rfl
            · (repeat' first | (refine Owe.same ?_; first | refine Owe.o ?_ | refine Owe.mk ?_ ?_) | (refine Fork.same ?_; (first | refine fkD ?_ ?_ | refine fkN ?_ ?_ | refine fkM ?_ ?_) <;> (intro h; try (exfalso; omega))) | refine MvQ.stay ?_)
              refine again (k + 1, false, acc ++ [(x, y, z)]) [0, 1, 5] ⟨⟨hk2, by simp; omega⟩, ⟨fun h => (by cases h)⟩, ⟨fun _ => hbad⟩⟩ (by show R.length - (k + 1) < R.length - k; omega) ?_
              (refine qis ?_ ?_ <;> (repeat' first | exact rfl | (refine qS ?_; constructor)))
              all_goals first | (simp; done) | exact VEq.c _ _ .fls | exact VEq.c _ _ .tru
            · (repeat' first | (refine Owe.same ?_; first | refine Owe.o ?_ | refine Owe.mk ?_ ?_) | (refine Fork.same ?_; (first | refine fkD ?_ ?_ | refine fkN ?_ ?_ | refine fkM ?_ ?_) <;> (intro h; try (exfalso; omega))) | refine MvQ.stay ?_)
              refine again (k + 1, false, acc ++ [(x, y, z)]) [0, 1, 16] ⟨⟨hk2, by simp; omega⟩, ⟨fun h => (by cases h)⟩, ⟨fun _ => hbad⟩⟩ (by show R.length - (k + 1) < R.length - k; omega) ?_
              (refine qis ?_ ?_ <;> (repeat' first | exact rfl | (refine qS ?_; constructor)))
              all_goals first | (simp; done) | exact VEq.c _ _ .fls | exact VEq.c _ _ .tru
            · (repeat' first | (refine Owe.same ?_; first | refine Owe.o ?_ | refine Owe.mk ?_ ?_) | (refine Fork.same ?_; (first | refine fkD ?_ ?_ | refine fkN ?_ ?_ | refine fkM ?_ ?_) <;> (intro h; try (exfalso; omega))) | refine MvQ.stay ?_)
              refine again (k + 1, false, acc ++ [(x, y, z)]) [0, 1, 27] ⟨⟨hk2, by simp; omega⟩, ⟨fun h => (by cases h)⟩, ⟨fun _ => hbad⟩⟩ (by show R.length - (k + 1) < R.length - k; omega) ?_
              (refine qis ?_ ?_ <;> (repeat' first | exact rfl | (refine qS ?_; constructor)))
              all_goals first | (simp; done) | exact VEq.c _ _ .fls | exact VEq.c _ _ .tru
            · (repeat' first | (refine Owe.same ?_; first | refine Owe.o ?_ | refine Owe.mk ?_ ?_) | (refine Fork.same ?_; (first | refine fkD ?_ ?_ | refine fkN ?_ ?_ | refine fkM ?_ ?_) <;> (intro h; try (exfalso; omega))) | refine MvQ.stay ?_)
              refine again (k + 1, false, acc ++ [(x, y, z)]) [0, 1, 38] ⟨⟨hk2, by simp; omega⟩, ⟨fun h => (by cases h)⟩, ⟨fun _ => hbad⟩⟩ (by show R.length - (k + 1) < R.length - k; omega) ?_
              (refine qis ?_ ?_ <;> (repeat' first | exact rfl | (refine qS ?_; constructor)))
              all_goals first | (simp; done) | exact VEq.c _ _ .fls | exact VEq.c _ _ .tru
          | false =>
            rcases hnx2 with rfl | rfl | rfl | rfl
            · (repeat' first | (refine Owe.same ?_; first | refine Owe.o ?_ | refine Owe.mk ?_ ?_) | (refine Fork.same ?_; (first | refine fkD ?_ ?_ | refine fkN ?_ ?_ | refine fkM ?_ ?_) <;> (intro h; try (exfalso; omega))) | refine MvQ.stay ?_)
              refine again (k + 1, false, acc ++ [(x, y, z)]) [0, 1, 5] ⟨⟨hk2, by simp; omega⟩, ⟨fun h => (by cases h)⟩, ⟨fun _ => hbad⟩⟩ (by show R.length - (k + 1) < R.length - k; omega) ?_
              (refine qis ?_ ?_ <;> (repeat' first | exact rfl | (refine qS ?_; constructor)))
              all_goals first | (simp; done) | exact VEq.c _ _ .fls | exact VEq.c _ _ .tru
            · (repeat' first | (refine Owe.same ?_; first | refine Owe.o ?_ | refine Owe.mk ?_ ?_) | (refine Fork.same ?_; (first | refine fkD ?_ ?_ | refine fkN ?_ ?_ | refine fkM ?_ ?_) <;> (intro h; try (exfalso; omega))) | refine MvQ.stay ?_)
              refine again (k + 1, false, acc ++ [(x, y, z)]) [0, 1, 16] ⟨⟨hk2, by simp; omega⟩, ⟨fun h => (by cases h)⟩, ⟨fun _ => hbad⟩⟩ (by show R.length - (k + 1) < R.length - k; omega) ?_
              (refine qis ?_ ?_ <;> (repeat' first | exact rfl | (refine qS ?_; constructor)))
              all_goals first | (simp; done) | exact VEq.c _ _ .fls | exact VEq.c _ _ .tru
            · (repeat' first | (refine Owe.same ?_; first | refine Owe.o ?_ | refine Owe.mk ?_ ?_) | (refine Fork.same ?_; (first | refine fkD ?_ ?_ | refine fkN ?_ ?_ | refine fkM ?_ ?_) <;> (intro h; try (exfalso; omega))) | refine MvQ.stay ?_)
              refine again (k + 1, false, acc ++ [(x, y, z)]) [0, 1, 27] ⟨⟨hk2, by simp; omega⟩, ⟨fun h => (by cases h)⟩, ⟨fun _ => hbad⟩⟩ (by show R.length - (k + 1) < R.length - k; omega) ?_
              (refine qis ?_ ?_ <;> (repeat' first | exact rfl | (refine qS ?_; constructor)))
              all_goals first | (simp; done) | exact VEq.c _ _ .fls | exact VEq.c _ _ .tru
            · (repeat' first | (refine Owe.same ?_; first | refine Owe.o ?_ | refine Owe.mk ?_ ?_) | (refine Fork.same ?_; (first | refine fkD ?_ ?_ | refine fkN ?_ ?_ | refine fkM ?_ ?_) <;> (intro h; try (exfalso; omega))) | refine MvQ.stay ?_)
              refine again (k + 1, false, acc ++ [(x, y, z)]) [0, 1, 38] ⟨⟨hk2, by simp; omega⟩, ⟨fun h => (by cases h)⟩, ⟨fun _ => hbad⟩⟩ (by show R.length - (k + 1) < R.length - k; omega) ?_
              (refine qis ?_ ?_ <;> (repeat' first | exact rfl | (refine qS ?_; constructor)))
              all_goals first | (simp; done) | exact VEq.c _ _ .fls | exact VEq.c _ _ .tru
      · have hk1 : k = R.length := by
          have hlt : ¬ (k : Int) < R.length := hlt
          omega
        subst hk1
        have hacc : acc.length ≤ 1000000 := by omega
        cases o with
        | true =>
          obtain ⟨hh, ha2⟩ := hx.h rfl
          rw [List.take_length] at ha2
          rw [plV_y hh ha2]
          have h96 := C96 (x := a) (z := b) (l := acc) hacc
          by_cases h00 : (lineE a b acc).2 = 0
          · rw [if_pos h00]
            rw [h00] at h96
            (repeat' first | (refine Owe.same ?_; first | refine Owe.o ?_ | refine Owe.mk ?_ ?_) | (refine Fork.same ?_; (first | refine fkD ?_ ?_ | refine fkN ?_ ?_ | refine fkM ?_ ?_) <;> intro h))
            refine MvQ.frzX 1 2 2 rfl rfl rfl (Nat.le_refl _) ?_
            (repeat' first | (refine Owe.same ?_; first | refine Owe.o ?_ | refine Owe.mk ?_ ?_) | (refine Fork.same ?_; (first | refine fkY ?_ | refine fkF ?_ | ((first | refine fkD ?_ ?_ | refine fkN ?_ ?_ | refine fkM ?_ ?_) <;> (intro h; try (exfalso; omega))))) | ((first | refine OpsL.same ?_ | refine OpsDL.same ?_); first | refine oK h96 rfl rfl rfl ?_) | refine MvQ.stay ?_)
            (refine rqK rfl ?_; (repeat' first | exact rfl | (refine qS ?_; constructor)))
          · rw [if_neg h00]
            (repeat' first | (refine Owe.same ?_; first | refine Owe.o ?_ | refine Owe.mk ?_ ?_) | (refine Fork.same ?_; (first | refine fkD ?_ ?_ | refine fkN ?_ ?_ | refine fkM ?_ ?_) <;> intro h))
            refine MvQ.frzX 1 2 2 rfl rfl rfl (Nat.le_refl _) ?_
            (repeat' first | (refine Owe.same ?_; first | refine Owe.o ?_ | refine Owe.mk ?_ ?_) | (refine Fork.same ?_; (first | refine fkY ?_ | refine fkF ?_ | ((first | refine fkD ?_ ?_ | refine fkN ?_ ?_ | refine fkM ?_ ?_) <;> (intro h; try (exfalso; omega))))) | ((first | refine OpsL.same ?_ | refine OpsDL.same ?_); first | refine oK h96 rfl rfl rfl ?_) | refine MvQ.stay ?_)
            (refine rqK rfl ?_; (repeat' first | exact rfl | (refine qS ?_; constructor)))
        | false =>
          rw [ha.h rfl]
          (repeat' first | (refine Owe.same ?_; first | refine Owe.o ?_ | refine Owe.mk ?_ ?_) | (refine Fork.same ?_; (first | refine fkD ?_ ?_ | refine fkN ?_ ?_ | refine fkM ?_ ?_) <;> intro h))
          refine MvQ.frzX 1 2 2 rfl rfl rfl (Nat.le_refl _) ?_
          (repeat' first | (refine Owe.same ?_; first | refine Owe.o ?_ | refine Owe.mk ?_ ?_) | (refine Fork.same ?_; (first | refine fkD ?_ ?_ | refine fkN ?_ ?_ | refine fkM ?_ ?_) <;> (intro h; try (exfalso; omega))) | refine MvQ.stay ?_)
          · (refine rqK rfl ?_; (repeat' first | exact rfl | (refine qS ?_; constructor)))
          · exact absurd h (by simp)
  · (repeat' first | (refine Owe.same ?_; first | refine Owe.o ?_ | refine Owe.mk ?_ ?_) | (refine Fork.same ?_; (first | refine fkD ?_ ?_ | refine fkN ?_ ?_ | refine fkM ?_ ?_) <;> (intro h; try (exfalso; omega))) | refine MvQ.stay ?_)
    refine Sat.nilB 1 2 160 3 (fun i => r3 (([] : List Tr3).getD i (0, 0, 0))) rfl rfl ?_
    refine Sat.lp (fun st : Nat × Bool × List Tr3 => ⟨[(2, .c (.bp 0 0)), (4, .c (.bp 1 0)), (29, .c (sts R)), (30, vi .i64 R.length), (31, vi .i64 (st.1 : Int)), (6, vbl st.2.1)],
        [(0, .box [int 0, int 0, .d (.v (.slice none 0 0))]), (1, .box [int a, int b, .ms 2 st.2.2.length]), (2, rowv 160 3 r3 (0, 0, 0) st.2.2)], 3⟩)
      (fun st : Nat × Bool × List Tr3 => (st.1 ≤ R.length ∧ st.2.2.length = st.1) ∧ Hd (st.2.1 = true → hdP h0 = some (a, b) ∧ alL lkP (R.take st.1) = some st.2.2) ∧ Hd (st.2.1 = false → plV h0 R = ((0, 0, []), 7))) (fun st : Nat × Bool × List Tr3 => R.length - st.1) (0, ok, []) [0, 1, 25] ⟨⟨by simp, rfl⟩, ⟨fun h => ⟨hy h, rfl⟩⟩, ⟨fun h => plV_h (hn h)⟩⟩ ?_ ?_
    · (refine qis ?_ ?_ <;> (repeat' first | exact rfl | (refine qS ?_; constructor)))
      cases ok
      · exact VEq.c _ _ .fls
      · exact VEq.c _ _ .tru
    · rintro ⟨k, o, acc⟩ ⟨⟨hk, hal⟩, hx, ha⟩
      simp only at hk hal hx ha
      refine Fork.dec (fun hlt => ?_) (fun hlt => ?_)
      · have hk2 : k < R.length := by have hlt : (k : Int) < R.length := hlt; omega
        have hpl : (R.getD (k : Int).toNat []).length ≤ 60000 := hPx.h _ (List.mem_cons_of_mem h0 (getD_mem (l := R) [] hk2))
        cases o with
        | true =>
          (repeat' first | (refine Owe.same ?_; first | refine Owe.o ?_ | refine Owe.mk ?_ ?_) | (refine Fork.same ?_; (first | refine fkD ?_ ?_ | refine fkN ?_ ?_ | refine fkM ?_ ?_) <;> (intro h; try (exfalso; omega))) | refine MvQ.stay ?_)
          refine Ops.cs rfl rfl (fillL hpl ?_)
          intro ok2 x y z nx2 hnx2 hy2 hn2
          cases ok2 with
          | true =>
            have hn1 : hdP h0 = some (a, b) ∧ alL lkP (R.take (k + 1)) = some (acc ++ [(x, y, z)]) := ⟨(hx.h rfl).1, by rw [tk1 [] hk2, alL_app (hx.h rfl).2, show lkP (R.getD k []) = some (x, y, z) from hy2 rfl]⟩
            rcases hnx2 with rfl | rfl | rfl | rfl
            · (repeat' first | (refine Owe.same ?_; first | refine Owe.o ?_ | refine Owe.mk ?_ ?_) | (refine Fork.same ?_; (first | refine fkD ?_ ?_ | refine fkN ?_ ?_ | refine fkM ?_ ?_) <;> (intro h; try (exfalso; omega))) | refine MvQ.stay ?_)
              refine again (k + 1, true, acc ++ [(x, y, z)]) [0, 1, 5] ⟨⟨hk2, by simp; omega⟩, ⟨fun _ => hn1⟩, ⟨fun h => (by cases h)⟩⟩ (by show R.length - (k + 1) < R.length - k; omega) ?_
              (refine qis ?_ ?_ <;> (repeat' first | exact rfl | (refine qS ?_; constructor)))
              all_goals first | (simp; done) | exact VEq.c _ _ .fls | exact VEq.c _ _ .tru
            · (repeat' first | (refine Owe.same ?_; first | refine Owe.o ?_ | refine Owe.mk ?_ ?_) | (refine Fork.same ?_; (first | refine fkD ?_ ?_ | refine fkN ?_ ?_ | refine fkM ?_ ?_) <;> (intro h; try (exfalso; omega))) | refine MvQ.stay ?_)
              refine again (k + 1, true, acc ++ [(x, y, z)]) [0, 1, 16] ⟨⟨hk2, by simp; omega⟩, ⟨fun _ => hn1⟩, ⟨fun h => (by cases h)⟩⟩ (by show R.length - (k + 1) < R.length - k; omega) ?_
              (refine qis ?_ ?_ <;> (repeat' first | exact rfl | (refine qS ?_; constructor)))
              all_goals first | (simp; done) | exact VEq.c _ _ .fls | exact VEq.c _ _ .tru
            · (repeat' first | (refine Owe.same ?_; first | refine Owe.o ?_ | refine Owe.mk ?_ ?_) | (refine Fork.same ?_; (first | refine fkD ?_ ?_ | refine fkN ?_ ?_ | refine fkM ?_ ?_) <;> (intro h; try (exfalso; omega))) | refine MvQ.stay ?_)
              refine again (k + 1, true, acc ++ [(x, y, z)]) [0, 1, 27] ⟨⟨hk2, by simp; omega⟩, ⟨fun _ => hn1⟩, ⟨fun h => (by cases h)⟩⟩ (by show R.length - (k + 1) < R.length - k; omega) ?_
              (refine qis ?_ ?_ <;> (repeat' first | exact rfl | (refine qS ?_; constructor)))
              all_goals first | (simp; done) | exact VEq.c _ _ .fls | exact VEq.c _ _ .tru
            · (repeat' first | (refine Owe.same ?_; first | refine Owe.o ?_ | refine Owe.mk ?_ ?_) | (refine Fork.same ?_; (first | refine fkD ?_ ?_ | refine fkN ?_ ?_ | refine fkM ?_ ?_) <;> (intro h; try (exfalso; omega))) | refine MvQ.stay ?_)
              refine again (k + 1, true, acc ++ [(x, y, z)]) [0, 1, 38] ⟨⟨hk2, by simp; omega⟩, ⟨fun _ => hn1⟩, ⟨fun h => (by cases h)⟩⟩ (by show R.length - (k + 1) < R.length - k; omega) ?_
              (refine qis ?_ ?_ <;> (repeat' first | exact rfl | (refine qS ?_; constructor)))
              all_goals first | (simp; done) | exact VEq.c _ _ .fls | exact VEq.c _ _ .tru
          | false =>
            have hbad : plV h0 R = ((0, 0, []), 7) := plV_r (alL_take hk2 (hn2 rfl))
            rcases hnx2 with rfl | rfl | rfl | rfl
            · (repeat' first | (refine Owe.same ?_; first | refine Owe.o ?_ | refine Owe.mk ?_ ?_) | (refine Fork.same ?_; (first | refine fkD ?_ ?_ | refine fkN ?_ ?_ | refine fkM ?_ ?_) <;> (intro h; try (exfalso; omega))) | refine MvQ.stay ?_)
              refine again (k + 1, false, acc ++ [(x, y, z)]) [0, 1, 5] ⟨⟨hk2, by simp; omega⟩, ⟨fun h => (by cases h)⟩, ⟨fun _ => hbad⟩⟩ (by show R.length - (k + 1) < R.length - k; omega) ?_
              (refine qis ?_ ?_ <;> (repeat' first | exact rfl | (refine qS ?_; constructor)))
              all_goals first | (simp; done) | exact VEq.c _ _ .fls | exact VEq.c _ _ .tru
            · (repeat' first | (refine Owe.same ?_; first | refine Owe.o ?_ | refine Owe.mk ?_ ?_) | (refine Fork.same ?_; (first | refine fkD ?_ ?_ | refine fkN ?_ ?_ | refine fkM ?_ ?_) <;> (intro h; try (exfalso; omega))) | refine MvQ.stay ?_)
              refine again (k + 1, false, acc ++ [(x, y, z)]) [0, 1, 16] ⟨⟨hk2, by simp; omega⟩, ⟨fun h => (by cases h)⟩, ⟨fun _ => hbad⟩⟩ (by show R.length - (k + 1) < R.length - k; omega) ?_
              (refine qis ?_ ?_ <;> (repeat' first | exact rfl | (refine qS ?_; constructor)))
              all_goals first | (simp; done) | exact VEq.c _ _ .fls | exact VEq.c _ _ .tru
            · (repeat' first | (refine Owe.same ?_; first | refine Owe.o ?_ | refine Owe.mk ?_ ?_) | (refine Fork.same ?_; (first | refine fkD ?_ ?_ | refine fkN ?_ ?_ | refine fkM ?_ ?_) <;> (intro h; try (exfalso; omega))) | refine MvQ.stay ?_)
              refine again (k + 1, false, acc ++ [(x, y, z)]) [0, 1, 27] ⟨⟨hk2, by simp; omega⟩, ⟨fun h => (by cases h)⟩, ⟨fun _ => hbad⟩⟩ (by show R.length - (k + 1) < R.length - k; omega) ?_
              (refine qis ?_ ?_ <;> (repeat' first | exact rfl | (refine qS ?_; constructor)))
              all_goals first | (simp; done) | exact VEq.c _ _ .fls | exact VEq.c _ _ .tru
            · (repeat' first | (refine Owe.same ?_; first | refine Owe.o ?_ | refine Owe.mk ?_ ?_) | (refine Fork.same ?_; (first | refine fkD ?_ ?_ | refine fkN ?_ ?_ | refine fkM ?_ ?_) <;> (intro h; try (exfalso; omega))) | refine MvQ.stay ?_)
              refine again (k + 1, false, acc ++ [(x, y, z)]) [0, 1, 38] ⟨⟨hk2, by simp; omega⟩, ⟨fun h => (by cases h)⟩, ⟨fun _ => hbad⟩⟩ (by show R.length - (k + 1) < R.length - k; omega) ?_
              (refine qis ?_ ?_ <;> (repeat' first | exact rfl | (refine qS ?_; constructor)))
              all_goals first | (simp; done) | exact VEq.c _ _ .fls | exact VEq.c _ _ .tru
        | false =>
          have hbad := ha.h rfl
          (repeat' first | (refine Owe.same ?_; first | refine Owe.o ?_ | refine Owe.mk ?_ ?_) | (refine Fork.same ?_; (first | refine fkD ?_ ?_ | refine fkN ?_ ?_ | refine fkM ?_ ?_) <;> (intro h; try (exfalso; omega))) | refine MvQ.stay ?_)
          refine Ops.cs rfl rfl (fillL hpl ?_)
          intro ok2 x y z nx2 hnx2 hy2 hn2
          cases ok2 with
          | true =>
            rcases hnx2 with rfl | rfl | rfl | rfl
            · (repeat' first | (refine Owe.same ?_; first | refine Owe.o ?_ | refine Owe.mk ?_ ?_) | (refine Fork.same ?_; (first | refine fkD ?_ ?_ | refine fkN ?_ ?_ | refine fkM ?_ ?_) <;> (intro h; try (exfalso; omega))) | refine MvQ.stay ?_)
              refine again (k + 1, false, acc ++ [(x, y, z)]) [0, 1, 5] ⟨⟨hk2, by simp; omega⟩, ⟨fun h => (by cases h)⟩, ⟨fun _ => hbad⟩⟩ (by show R.length - (k + 1) < R.length - k; omega) ?_
              (refine qis ?_ ?_ <;> (repeat' first | exact rfl | (refine qS ?_; constructor)))
              all_goals first | (simp; done) | exact VEq.c _ _ .fls | exact VEq.c _ _ .tru
            · (repeat' first | (refine Owe.same ?_; first | refine Owe.o ?_ | refine Owe.mk ?_ ?_) | (refine Fork.same ?_; (first | refine fkD ?_ ?_ | refine fkN ?_ ?_ | refine fkM ?_ ?_) <;> (intro h; try (exfalso; omega))) | refine MvQ.stay ?_)
              refine again (k + 1, false, acc ++ [(x, y, z)]) [0, 1, 16] ⟨⟨hk2, by simp; omega⟩, ⟨fun h => (by cases h)⟩, ⟨fun _ => hbad⟩⟩ (by show R.length - (k + 1) < R.length - k; omega) ?_
              (refine qis ?_ ?_ <;> (repeat' first | exact rfl | (refine qS ?_; constructor)))
              all_goals first | (simp; done) | exact VEq.c _ _ .fls | exact VEq.c _ _ .tru
            · (repeat' first | (refine Owe.same ?_; first | refine Owe.o ?_ | refine Owe.mk ?_ ?_) | (refine Fork.same ?_; (first | refine fkD ?_ ?_ | refine fkN ?_ ?_ | refine fkM ?_ ?_) <;> (intro h; try (exfalso; omega))) | refine MvQ.stay ?_)
              refine again (k + 1, false, acc ++ [(x, y, z)]) [0, 1, 27] ⟨⟨hk2, by simp; omega⟩, ⟨fun h => (by cases h)⟩, ⟨fun _ => hbad⟩⟩ (by show R.length - (k + 1) < R.length - k; omega) ?_
              (refine qis ?_ ?_ <;> (repeat' first | exact rfl | (refine qS ?_; constructor)))
              all_goals first | (simp; done) | exact VEq.c _ _ .fls | exact VEq.c _ _ .tru
            · (repeat' first | (refine Owe.same ?_; first | refine Owe.o ?_ | refine Owe.mk ?_ ?_) | (refine Fork.same ?_; (first | refine fkD ?_ ?_ | refine fkN ?_ ?_ | refine fkM ?_ ?_) <;> (intro h; try (exfalso; omega))) | refine MvQ.stay ?_)
              refine again (k + 1, false, acc ++ [(x, y, z)]) [0, 1, 38] ⟨⟨hk2, by simp; omega⟩, ⟨fun h => (by cases h)⟩, ⟨fun _ => hbad⟩⟩ (by show R.length - (k + 1) < R.length - k; omega) ?_
              (refine qis ?_ ?_ <;> (repeat' first | exact rfl | (refine qS ?_; constructor)))
              all_goals first | (simp; done) | exact VEq.c _ _ .fls | exact VEq.c _ _ .tru
          | false =>
            rcases hnx2 with rfl | rfl | rfl | rfl
            · (repeat' first | (refine Owe.same ?_; first | refine Owe.o ?_ | refine Owe.mk ?_ ?_) | (refine Fork.same ?_; (first | refine fkD ?_ ?_ | refine fkN ?_ ?_ | refine fkM ?_ ?_) <;> (intro h; try (exfalso; omega))) | refine MvQ.stay ?_)
              refine again (k + 1, false, acc ++ [(x, y, z)]) [0, 1, 5] ⟨⟨hk2, by simp; omega⟩, ⟨fun h => (by cases h)⟩, ⟨fun _ => hbad⟩⟩ (by show R.length - (k + 1) < R.length - k; omega) ?_
              (refine qis ?_ ?_ <;> (repeat' first | exact rfl | (refine qS ?_; constructor)))
              all_goals first | (simp; done) | exact VEq.c _ _ .fls | exact VEq.c _ _ .tru
            · (repeat' first | (refine Owe.same ?_; first | refine Owe.o ?_ | refine Owe.mk ?_ ?_) | (refine Fork.same ?_; (first | refine fkD ?_ ?_ | refine fkN ?_ ?_ | refine fkM ?_ ?_) <;> (intro h; try (exfalso; omega))) | refine MvQ.stay ?_)
              refine again (k + 1, false, acc ++ [(x, y, z)]) [0, 1, 16] ⟨⟨hk2, by simp; omega⟩, ⟨fun h => (by cases h)⟩, ⟨fun _ => hbad⟩⟩ (by show R.length - (k + 1) < R.length - k; omega) ?_
              (refine qis ?_ ?_ <;> (repeat' first | exact rfl | (refine qS ?_; constructor)))
              all_goals first | (simp; done) | exact VEq.c _ _ .fls | exact VEq.c _ _ .tru
            · (repeat' first | (refine Owe.same ?_; first | refine Owe.o ?_ | refine Owe.mk ?_ ?_) | (refine Fork.same ?_; (first | refine fkD ?_ ?_ | refine fkN ?_ ?_ | refine fkM ?_ ?_) <;> (intro h; try (exfalso; omega))) | refine MvQ.stay ?_)
              refine again (k + 1, false, acc ++ [(x, y, z)]) [0, 1, 27] ⟨⟨hk2, by simp; omega⟩, ⟨fun h => (by cases h)⟩, ⟨fun _ => hbad⟩⟩ (by show R.length - (k + 1) < R.length - k; omega) ?_
              (refine qis ?_ ?_ <;> (repeat' first | exact rfl | (refine qS ?_; constructor)))
              all_goals first | (simp; done) | exact VEq.c _ _ .fls | exact VEq.c _ _ .tru
            · (repeat' first | (refine Owe.same ?_; first | refine Owe.o ?_ | refine Owe.mk ?_ ?_) | (refine Fork.same ?_; (first | refine fkD ?_ ?_ | refine fkN ?_ ?_ | refine fkM ?_ ?_) <;> (intro h; try (exfalso; omega))) | refine MvQ.stay ?_)
              refine again (k + 1, false, acc ++ [(x, y, z)]) [0, 1, 38] ⟨⟨hk2, by simp; omega⟩, ⟨fun h => (by cases h)⟩, ⟨fun _ => hbad⟩⟩ (by show R.length - (k + 1) < R.length - k; omega) ?_
              (refine qis ?_ ?_ <;> (repeat' first | exact rfl | (refine qS ?_; constructor)))
              all_goals first | (simp; done) | exact VEq.c _ _ .fls | exact VEq.c _ _ .tru
      · have hk1 : k = R.length := by
          have hlt : ¬ (k : Int) < R.length := hlt
          omega
        subst hk1
        have hacc : acc.length ≤ 1000000 := by omega
        cases o with
        | true =>
          obtain ⟨hh, ha2⟩ := hx.h rfl
          rw [List.take_length] at ha2
          rw [plV_y hh ha2]
          have h96 := C96 (x := a) (z := b) (l := acc) hacc
          by_cases h00 : (lineE a b acc).2 = 0
          · rw [if_pos h00]
            rw [h00] at h96
            (repeat' first | (refine Owe.same ?_; first | refine Owe.o ?_ | refine Owe.mk ?_ ?_) | (refine Fork.same ?_; (first | refine fkD ?_ ?_ | refine fkN ?_ ?_ | refine fkM ?_ ?_) <;> intro h))
            refine MvQ.frzX 1 2 2 rfl rfl rfl (Nat.le_refl _) ?_
            (repeat' first | (refine Owe.same ?_; first | refine Owe.o ?_ | refine Owe.mk ?_ ?_) | (refine Fork.same ?_; (first | refine fkY ?_ | refine fkF ?_ | ((first | refine fkD ?_ ?_ | refine fkN ?_ ?_ | refine fkM ?_ ?_) <;> (intro h; try (exfalso; omega))))) | ((first | refine OpsL.same ?_ | refine OpsDL.same ?_); first | refine oK h96 rfl rfl rfl ?_) | refine MvQ.stay ?_)
            (refine rqK rfl ?_; (repeat' first | exact rfl | (refine qS ?_; constructor)))
          · rw [if_neg h00]
            (repeat' first | (refine Owe.same ?_; first | refine Owe.o ?_ | refine Owe.mk ?_ ?_) | (refine Fork.same ?_; (first | refine fkD ?_ ?_ | refine fkN ?_ ?_ | refine fkM ?_ ?_) <;> intro h))
            refine MvQ.frzX 1 2 2 rfl rfl rfl (Nat.le_refl _) ?_
            (repeat' first | (refine Owe.same ?_; first | refine Owe.o ?_ | refine Owe.mk ?_ ?_) | (refine Fork.same ?_; (first | refine fkY ?_ | refine fkF ?_ | ((first | refine fkD ?_ ?_ | refine fkN ?_ ?_ | refine fkM ?_ ?_) <;> (intro h; try (exfalso; omega))))) | ((first | refine OpsL.same ?_ | refine OpsDL.same ?_); first | refine oK h96 rfl rfl rfl ?_) | refine MvQ.stay ?_)
            (refine rqK rfl ?_; (repeat' first | exact rfl | (refine qS ?_; constructor)))
        | false =>
          rw [ha.h rfl]
          (repeat' first | (refine Owe.same ?_; first | refine Owe.o ?_ | refine Owe.mk ?_ ?_) | (refine Fork.same ?_; (first | refine fkD ?_ ?_ | refine fkN ?_ ?_ | refine fkM ?_ ?_) <;> intro h))
          refine MvQ.frzX 1 2 2 rfl rfl rfl (Nat.le_refl _) ?_
          (repeat' first | (refine Owe.same ?_; first | refine Owe.o ?_ | refine Owe.mk ?_ ?_) | (refine Fork.same ?_; (first | refine fkD ?_ ?_ | refine fkN ?_ ?_ | refine fkM ?_ ?_) <;> (intro h; try (exfalso; omega))) | refine MvQ.stay ?_)
          · (refine rqK rfl ?_; (repeat' first | exact rfl | (refine qS ?_; constructor)))
          · exact absurd h (by simp)
end Go.Pw

set_option linter.unusedSimpArgs false
set_option linter.unusedVariables false
namespace Go.Pw
set_option maxRecDepth 2000
open Go Go.Proofs A1 A2 A3 A4
theorem C105 {x z : Int} {l : List Lk} {b : List Rg} : (l.length ≤ 1000000 ∧ b.length ≤ 1000000) → PFD Tryz.prog 105 [.agg [int x, int z, trs l], .c (prs b)] (.tup [vi .i64 (boxE l.length b).1, vi .i64 (boxE l.length b).2]) := fun hl => by
  by_cases h1 : b.length = l.length
  · rw [boxE, if_pos h1]
    refine pi2 fn105 ?_
    (repeat' first | (refine Owe.same ?_; first | refine Owe.o ?_ | refine Owe.mk ?_ ?_) | (refine Fork.same ?_; (first | refine fkD ?_ ?_ | refine fkN ?_ ?_ | refine fkM ?_ ?_) <;> intro h) | ((first | refine OpsL.same ?_ | refine OpsDL.same ?_); first | refine pK C195 rfl rfl ?_) | refine MvQ.stay ?_)
    · exfalso; omega
    refine Sat.lp (fun k : Nat => ⟨[(6, vi .i64 k), (1, .c (prs b)), (2, .c (.bp 0 0))], [(0, .box [int x, int z, trs l])], 1⟩)
      (fun k => k ≤ b.length ∧ eachE rgErr 0 b = eachE rgErr k (b.drop k)) (fun k => b.length - k) 0 [0] ⟨Nat.zero_le _, rfl⟩ ?_ ?_
    · (refine qis ?_ ?_ <;> (repeat' first | exact rfl | (refine qS ?_; constructor)))
    · intro k hk
      refine Fork.dec (fun hlt => ?_) (fun hlt => ?_)
      · have hlt : k < b.length := by omega
        have e2 := eachE_drop rgErr (0, 0) b k hlt
        by_cases h4 : curOk (b.getD k (0, 0)).1 ∧ curOk (b.getD k (0, 0)).2
        · by_cases h5 : (b.getD k (0, 0)).1 ≤ (b.getD k (0, 0)).2
          · have e3 : rgErr (b.getD k (0, 0)) = 0 := by simp only [rgErr, fstE, unl_eq]; rw [if_pos h4, if_pos rfl, if_pos h5, if_pos rfl]
            rw [if_pos e3, ← hk.2] at e2
            obtain ⟨h6, h7⟩ := h4
            (repeat' first | (refine Owe.same ?_; first | refine Owe.o ?_ | refine Owe.mk ?_ ?_) | (refine Fork.same ?_; (first | refine fkD ?_ ?_ | refine fkN ?_ ?_ | refine fkM ?_ ?_) <;> intro h) | ((first | refine OpsL.same ?_ | refine OpsDL.same ?_); first | refine pK C195 rfl rfl ?_) | refine MvQ.stay ?_)
            all_goals first | (exfalso; simp only [Int.toNat_natCast, curOk] at *; omega) | skip
            refine again (k + 1) [0] ⟨hlt, e2⟩ (by omega) ?_
            (refine qis ?_ ?_ <;> (repeat' first | exact rfl | (refine qS ?_; constructor)))
          · have e3 : rgErr (b.getD k (0, 0)) = 9 := by simp only [rgErr, fstE, unl_eq]; rw [if_pos h4, if_pos rfl, if_neg h5]; rfl
            rw [if_neg (by rw [e3]; decide), ← hk.2, e3] at e2
            rw [e2]
            obtain ⟨h6, h7⟩ := h4
            (repeat' first | (refine Owe.same ?_; first | refine Owe.o ?_ | refine Owe.mk ?_ ?_) | (refine Fork.same ?_; (first | refine fkD ?_ ?_ | refine fkN ?_ ?_ | refine fkM ?_ ?_) <;> intro h) | ((first | refine OpsL.same ?_ | refine OpsDL.same ?_); first | refine pK C195 rfl rfl ?_) | refine MvQ.stay ?_)
            all_goals first | (exfalso; simp only [Int.toNat_natCast, curOk] at *; omega) | (refine rqK rfl ?_; (repeat' first | exact rfl | (refine qS ?_; constructor)))
        · have e3 : rgErr (b.getD k (0, 0)) = 2 := by simp only [rgErr, fstE, unl_eq]; rw [if_neg h4]; rfl
          rw [if_neg (by rw [e3]; decide), ← hk.2, e3] at e2
          rw [e2]
          (repeat' first | (refine Owe.same ?_; first | refine Owe.o ?_ | refine Owe.mk ?_ ?_) | (refine Fork.same ?_; (first | refine fkD ?_ ?_ | refine fkN ?_ ?_ | refine fkM ?_ ?_) <;> intro h) | ((first | refine OpsL.same ?_ | refine OpsDL.same ?_); first | refine pK C195 rfl rfl ?_) | refine MvQ.stay ?_)
          all_goals first | (exfalso; simp only [Int.toNat_natCast, curOk] at *; omega) | (refine rqK rfl ?_; (repeat' first | exact rfl | (refine qS ?_; constructor)))
      · (repeat' first | (refine Owe.same ?_; first | refine Owe.o ?_ | refine Owe.mk ?_ ?_) | (refine Fork.same ?_; (first | refine fkD ?_ ?_ | refine fkN ?_ ?_ | refine fkM ?_ ?_) <;> intro h) | refine MvQ.stay ?_)
        rw [hk.2, List.drop_of_length_le (by omega)]
        (refine rqK rfl ?_; (repeat' first | exact rfl | (refine qS ?_; constructor)))
  · rw [boxE, if_neg h1]
    refine pi2 fn105 ?_
    (repeat' first | (refine Owe.same ?_; first | refine Owe.o ?_ | refine Owe.mk ?_ ?_) | (refine Fork.same ?_; (first | refine fkD ?_ ?_ | refine fkN ?_ ?_ | refine fkM ?_ ?_) <;> intro h) | ((first | refine OpsL.same ?_ | refine OpsDL.same ?_); first | refine pK C195 rfl rfl ?_) | refine MvQ.stay ?_)
    all_goals first | (exfalso; omega) | (refine rqK rfl ?_; (repeat' first | exact rfl | (refine qS ?_; constructor)))
end Go.Pw

set_option linter.unusedSimpArgs false
set_option linter.unusedVariables false
namespace Go.Pw
set_option maxRecDepth 2000
open Go Go.Proofs A1 A2 A3 A4
end Go.Pw

set_option linter.unusedSimpArgs false
set_option linter.unusedVariables false
namespace Go.Pw
set_option maxRecDepth 2000
open Go Go.Proofs A1 A2 A3 A4
end Go.Pw

set_option linter.unusedSimpArgs false
set_option linter.unusedVariables false
namespace Go.Pw
set_option maxRecDepth 2000
open Go Go.Proofs A1 A2 A3 A4
end Go.Pw

set_option linter.unusedSimpArgs false
set_option linter.unusedVariables false
namespace Go.Pw
set_option maxRecDepth 2000
open Go Go.Proofs A1 A2 A3 A4
theorem C23 {x z : Int} {l : List Lk} {b : List Rg} : (l.length ≤ 1000000 ∧ b.length ≤ 1000000) → PFD Tryz.prog 23 [.agg [int x, int z, trs l], .c (prs b)] (vi .i64 (boxE l.length b).2) := fun hl => by
  have c1 := C105 (x := x) (z := z) hl
  refine pi1 fn23 ?_
  (repeat' first | (refine Owe.same ?_; first | refine Owe.o ?_ | refine Owe.mk ?_ ?_) | (refine Fork.same ?_; (first | refine fkD ?_ ?_ | refine fkN ?_ ?_ | refine fkM ?_ ?_) <;> intro h) | ((first | refine OpsL.same ?_ | refine OpsDL.same ?_); first | refine pK c1 rfl rfl ?_) | refine MvQ.stay ?_)
  (refine rqK rfl ?_; (repeat' first | exact rfl | (refine qS ?_; constructor)))
theorem Ln.Ok.le {L : Ln} (h : L.Ok) : ∀ k : Nat, k ≤ L.l.length → L.pl k ≤ L.ph k
  | 0, _ => Int.le_refl _
  | k + 1, hk => by
    have := h.le k (by omega)
    have h1 := (h.lk (k := k) (by omega)).2.2
    have h2 := (h.rg (k := k) (by omega)).2.2
    have := Int.mul_le_mul_of_nonneg_left h2 h1.1
    show L.pl k + L.d k * L.lo k ≤ L.ph k + L.d k * L.hi k
    omega
end Go.Pw

set_option linter.unusedSimpArgs false
set_option linter.unusedVariables false
namespace Go.Pw
set_option maxRecDepth 2000
open Go Go.Proofs A1 A2 A3 A4
end Go.Pw

set_option linter.unusedSimpArgs false
set_option linter.unusedVariables false
namespace Go.Pw
set_option maxRecDepth 2000
open Go Go.Proofs A1 A2 A3 A4
theorem least {q : Nat → Prop} : ∀ n : Nat, (∀ i, i < n → ¬ q i) ∨ ∃ i, i < n ∧ q i ∧ ∀ j, j < i → ¬ q j
  | 0 => .inl fun i hi => absurd hi (Nat.not_lt_zero _)
  | n + 1 => by
    rcases least (q := q) n with h | ⟨i, hi, h1, h2⟩
    · by_cases hn : q n
      · exact .inr ⟨n, Nat.lt_succ_self n, hn, h⟩
      · refine .inl fun i hi => ?_
        rcases Nat.lt_succ_iff_lt_or_eq.1 hi with h1 | rfl
        · exact h i h1
        · exact hn
    · exact .inr ⟨i, by omega, h1, h2⟩
/-- A list is the first contradiction: of one reading, or else of two. -/
inductive Con (p : Nat → Prop) (q : Nat → Nat → Prop) (n : Nat) : List Int → Prop
  | one (i : Nat) (hi : i < n) (h : p i) (hb : ∀ j, j < i → ¬ p j) : Con p q n [(i : Int)]
  | two (i k : Nat) (hn : ∀ j, j < n → ¬ p j) (hik : i < k) (hk : k < n) (h : q i k) (hi : ∀ i', i' < i → ∀ k', i' < k' → k' < n → ¬ q i' k') (hkb : ∀ k', i < k' → k' < k → ¬ q i k') : Con p q n [(i : Int), (k : Int)]
  | non (hn : ∀ j, j < n → ¬ p j) (h : ∀ i k, i < k → k < n → ¬ q i k) : Con p q n []
theorem Con.exists (p : Nat → Prop) (q : Nat → Nat → Prop) (n : Nat) : ∃ s, Con p q n s := by
  rcases least (q := p) n with h | ⟨i, hi, h1, h2⟩
  · rcases least (q := fun i => ∃ k, i < k ∧ k < n ∧ q i k) n with g | ⟨i, hi, ⟨k0, g0, g1, g2⟩, g3⟩
    · exact ⟨_, .non h fun i k hik hk hq => g i (by omega) ⟨k, hik, hk, hq⟩⟩
    · rcases least (q := fun k => i < k ∧ q i k) n with f | ⟨k, hk, ⟨f1, f2⟩, f3⟩
      · exact absurd ⟨g0, g2⟩ (f k0 g1)
      · exact ⟨_, .two i k h f1 hk f2 (fun i' hi' k' h1 h2 h3 => g3 i' hi' ⟨k', h1, h2, h3⟩) fun k' h1 h2 h3 => f3 k' h2 ⟨h1, h3⟩⟩
  · exact ⟨_, .one i hi h1 h2⟩
theorem Con.len {p : Nat → Prop} {q : Nat → Nat → Prop} {n : Nat} {s : List Int} (h : Con p q n s) : s.length ≤ 2 := by cases h <;> simp
abbrev rd (r : List Lk) (i : Nat) : Lk := r.getD i (0, 0, 0)
end Go.Pw

set_option linter.unusedSimpArgs false
set_option linter.unusedVariables false
namespace Go.Pw
set_option maxRecDepth 2000
open Go Go.Proofs A1 A2 A3 A4
end Go.Pw

set_option linter.unusedSimpArgs false
set_option linter.unusedVariables false
set_option maxHeartbeats 1000000
namespace Go.Pw
open Go.RowKit Go.Lib
set_option maxRecDepth 2000
open Go Go.Proofs A1 A2 A3 A4
theorem C3 {x z : Int} {l : List Tr3} {b : List Rg} {s : By} (hx : i64P x) (hz : i64P z) (hl : ∀ d ∈ l, w64P d) (hb : ∀ r ∈ b, w64Q r) : PFD Tryz.prog 3 [.agg [int x, int z, trs l], .c (prs b), sv s] (vbl true) := by
  have hsz : (bs s).size = s.length := bs_size s
  have c8 := C8
  have c9 := C9 (x := x) (z := z) (l := l) (n := (b.length : Int))
  by_cases g1 : l.length ≤ 12 ∧ (b.length : Int) ≤ 14
  · rw [decide_eq_true g1] at c9
    by_cases g2 : (s.length : Int) ≤ 200 ∨ (60000 < (s.length : Int) ∧ (s.length : Int) ≤ 60010)
    · have c11 := C11 (x := x) (z := z) (l := l) (by omega)
      have c10 := C10 ⟨(show l.length ≤ 1000 by omega), hx, hz, hl⟩
      have c18 := C18 ⟨(show l.length ≤ 1000 by omega), hx, hz, hl⟩
      have c13 := C13 (l := b) (by omega)
      have c12 := C12 ⟨(show b.length ≤ 400 by omega), hb⟩
      have c19 := C19 ⟨(show b.length ≤ 400 by omega), hb⟩
      have c14 := C14 (s := s) (by omega)
      have c15 := C15 (s := s) (by omega)
      have c16 := C16 (s := s) (by omega)
      have c17 := C17 (s := s) (by omega)
      have k1 := ln_len hx hz hl
      have k2 : (bxS b).length ≤ 1000 := by
        have h1 := wd_len (fl2_i64 hb); have h2 := fl2_len b
        show (wdS (fl2 b)).length ≤ _; omega
      have c14b := C14 (s := lnS x z l) (by omega)
      have c15b := C15 (s := bxS b) (by omega)
      have p1 : (lineE x z l).2 = 0 → plE (lnS x z l) = ((x, z, l), 0) := fun h => plE_S h (by omega)
      have p2 : (boxE l.length b).2 = 0 → bxE (bxS b) = (b, 0) := fun h => bxE_S h (by omega)
      have c22 := C22 (x := x) (z := z) (l := l) (by omega)
      have c23 := C23 (x := x) (z := z) (l := l) (b := b) (by omega)
      have n1 := plE_len s
      have n2 := bxE_len s
      have c20 := C20 (x := (plE s).1.1) (z := (plE s).1.2.1) (l := (plE s).1.2.2) (u := (plE s).1.1) (v := (plE s).1.2.1) (m := (plE s).1.2.2) (by omega)
      have c21 := C21 (l := (bxE s).1) (m := (bxE s).1) (by omega)
      rw [decide_eq_true rfl] at c20 c21
      have c20l := C20 (x := x) (z := z) (l := l) (u := x) (v := z) (m := l) (by omega)
      have c21l := C21 (l := b) (m := b) (by omega)
      rw [decide_eq_true rfl] at c20l c21l
      generalize lnS x z l = A at *
      generalize bxS b = B at *
      generalize plE s = Y at *
      generalize bxE s = Z at *
      generalize (lineE x z l).2 = d1 at *
      generalize (boxE l.length b).2 = d2 at *
      obtain ⟨⟨y1, y2, y3⟩, e⟩ := Y
      obtain ⟨Z, f⟩ := Z
      clear k1 k2 n1 n2 hl hb hx hz
      by_cases e1 : d1 = 0
      · rw [p1 e1] at c14b
        rw [e1] at c22
        by_cases e2 : d2 = 0
        · rw [p2 e2] at c15b
          rw [e2] at c23
          clear p1 p2
          rcases g2 with g2 | g2
          · refine pi1 fn3 ?_
            (repeat' first | (refine Owe.same ?_; first | refine Owe.o ?_ | refine Owe.mk ?_ ?_) | (refine Fork.same ?_; (first | refine fkY ?_ | refine fkF ?_ | ((first | refine fkD ?_ ?_ | refine fkN ?_ ?_ | refine fkM ?_ ?_) <;> intro h))) | ((first | refine OpsL.same ?_ | refine OpsDL.same ?_); first | refine oK c8 rfl rfl rfl ?_ | refine oK c9 rfl rfl rfl ?_ | refine oK c11 rfl rfl rfl ?_ | refine oK c10 rfl rfl rfl ?_ | refine oK c13 rfl rfl rfl ?_ | refine oK c12 rfl rfl rfl ?_ | refine oK c14 rfl rfl rfl ?_ | refine oK c15 rfl rfl rfl ?_ | refine oK c16 rfl rfl rfl ?_ | refine oK c17 rfl rfl rfl ?_ | refine oK c18 rfl rfl rfl ?_ | refine oK c19 rfl rfl rfl ?_ | refine oK c20 rfl rfl rfl ?_ | refine oK c21 rfl rfl rfl ?_ | refine oK c22 rfl rfl rfl ?_ | refine oK c23 rfl rfl rfl ?_ | refine oK c14b rfl rfl rfl ?_ | refine oK c15b rfl rfl rfl ?_ | refine oK c20l rfl rfl rfl ?_ | refine oK c21l rfl rfl rfl ?_) | refine MvQ.stay ?_)
            (refine rqK rfl ?_; (repeat' first | exact rfl | (refine qS ?_; constructor)))
          · refine pi1 fn3 ?_
            (repeat' first | (refine Owe.same ?_; first | refine Owe.o ?_ | refine Owe.mk ?_ ?_) | (refine Fork.same ?_; (first | refine fkY ?_ | refine fkF ?_ | ((first | refine fkD ?_ ?_ | refine fkN ?_ ?_ | refine fkM ?_ ?_) <;> intro h))) | ((first | refine OpsL.same ?_ | refine OpsDL.same ?_); first | refine oK c8 rfl rfl rfl ?_ | refine oK c9 rfl rfl rfl ?_ | refine oK c11 rfl rfl rfl ?_ | refine oK c10 rfl rfl rfl ?_ | refine oK c13 rfl rfl rfl ?_ | refine oK c12 rfl rfl rfl ?_ | refine oK c14 rfl rfl rfl ?_ | refine oK c15 rfl rfl rfl ?_ | refine oK c16 rfl rfl rfl ?_ | refine oK c17 rfl rfl rfl ?_ | refine oK c18 rfl rfl rfl ?_ | refine oK c19 rfl rfl rfl ?_ | refine oK c20 rfl rfl rfl ?_ | refine oK c21 rfl rfl rfl ?_ | refine oK c22 rfl rfl rfl ?_ | refine oK c23 rfl rfl rfl ?_ | refine oK c14b rfl rfl rfl ?_ | refine oK c15b rfl rfl rfl ?_ | refine oK c20l rfl rfl rfl ?_ | refine oK c21l rfl rfl rfl ?_) | refine MvQ.stay ?_)
            (refine rqK rfl ?_; (repeat' first | exact rfl | (refine qS ?_; constructor)))
        · clear p1 p2
          rcases g2 with g2 | g2
          · refine pi1 fn3 ?_
            (repeat' first | (refine Owe.same ?_; first | refine Owe.o ?_ | refine Owe.mk ?_ ?_) | (refine Fork.same ?_; (first | refine fkY ?_ | refine fkF ?_ | ((first | refine fkD ?_ ?_ | refine fkN ?_ ?_ | refine fkM ?_ ?_) <;> intro h))) | ((first | refine OpsL.same ?_ | refine OpsDL.same ?_); first | refine oK c8 rfl rfl rfl ?_ | refine oK c9 rfl rfl rfl ?_ | refine oK c11 rfl rfl rfl ?_ | refine oK c10 rfl rfl rfl ?_ | refine oK c13 rfl rfl rfl ?_ | refine oK c12 rfl rfl rfl ?_ | refine oK c14 rfl rfl rfl ?_ | refine oK c15 rfl rfl rfl ?_ | refine oK c16 rfl rfl rfl ?_ | refine oK c17 rfl rfl rfl ?_ | refine oK c18 rfl rfl rfl ?_ | refine oK c19 rfl rfl rfl ?_ | refine oK c20 rfl rfl rfl ?_ | refine oK c21 rfl rfl rfl ?_ | refine oK c22 rfl rfl rfl ?_ | refine oK c23 rfl rfl rfl ?_ | refine oK c14b rfl rfl rfl ?_ | refine oK c15b rfl rfl rfl ?_ | refine oK c20l rfl rfl rfl ?_ | refine oK c21l rfl rfl rfl ?_) | refine MvQ.stay ?_)
            (refine rqK rfl ?_; (repeat' first | exact rfl | (refine qS ?_; constructor)))
          · refine pi1 fn3 ?_
            (repeat' first | (refine Owe.same ?_; first | refine Owe.o ?_ | refine Owe.mk ?_ ?_) | (refine Fork.same ?_; (first | refine fkY ?_ | refine fkF ?_ | ((first | refine fkD ?_ ?_ | refine fkN ?_ ?_ | refine fkM ?_ ?_) <;> intro h))) | ((first | refine OpsL.same ?_ | refine OpsDL.same ?_); first | refine oK c8 rfl rfl rfl ?_ | refine oK c9 rfl rfl rfl ?_ | refine oK c11 rfl rfl rfl ?_ | refine oK c10 rfl rfl rfl ?_ | refine oK c13 rfl rfl rfl ?_ | refine oK c12 rfl rfl rfl ?_ | refine oK c14 rfl rfl rfl ?_ | refine oK c15 rfl rfl rfl ?_ | refine oK c16 rfl rfl rfl ?_ | refine oK c17 rfl rfl rfl ?_ | refine oK c18 rfl rfl rfl ?_ | refine oK c19 rfl rfl rfl ?_ | refine oK c20 rfl rfl rfl ?_ | refine oK c21 rfl rfl rfl ?_ | refine oK c22 rfl rfl rfl ?_ | refine oK c23 rfl rfl rfl ?_ | refine oK c14b rfl rfl rfl ?_ | refine oK c15b rfl rfl rfl ?_ | refine oK c20l rfl rfl rfl ?_ | refine oK c21l rfl rfl rfl ?_) | refine MvQ.stay ?_)
            (refine rqK rfl ?_; (repeat' first | exact rfl | (refine qS ?_; constructor)))
      · clear p1 p2
        rcases g2 with g2 | g2
        · refine pi1 fn3 ?_
          (repeat' first | (refine Owe.same ?_; first | refine Owe.o ?_ | refine Owe.mk ?_ ?_) | (refine Fork.same ?_; (first | refine fkY ?_ | refine fkF ?_ | ((first | refine fkD ?_ ?_ | refine fkN ?_ ?_ | refine fkM ?_ ?_) <;> intro h))) | ((first | refine OpsL.same ?_ | refine OpsDL.same ?_); first | refine oK c8 rfl rfl rfl ?_ | refine oK c9 rfl rfl rfl ?_ | refine oK c11 rfl rfl rfl ?_ | refine oK c10 rfl rfl rfl ?_ | refine oK c13 rfl rfl rfl ?_ | refine oK c12 rfl rfl rfl ?_ | refine oK c14 rfl rfl rfl ?_ | refine oK c15 rfl rfl rfl ?_ | refine oK c16 rfl rfl rfl ?_ | refine oK c17 rfl rfl rfl ?_ | refine oK c18 rfl rfl rfl ?_ | refine oK c19 rfl rfl rfl ?_ | refine oK c20 rfl rfl rfl ?_ | refine oK c21 rfl rfl rfl ?_ | refine oK c22 rfl rfl rfl ?_ | refine oK c23 rfl rfl rfl ?_ | refine oK c14b rfl rfl rfl ?_ | refine oK c15b rfl rfl rfl ?_ | refine oK c20l rfl rfl rfl ?_ | refine oK c21l rfl rfl rfl ?_) | refine MvQ.stay ?_)
          (refine rqK rfl ?_; (repeat' first | exact rfl | (refine qS ?_; constructor)))
        · refine pi1 fn3 ?_
          (repeat' first | (refine Owe.same ?_; first | refine Owe.o ?_ | refine Owe.mk ?_ ?_) | (refine Fork.same ?_; (first | refine fkY ?_ | refine fkF ?_ | ((first | refine fkD ?_ ?_ | refine fkN ?_ ?_ | refine fkM ?_ ?_) <;> intro h))) | ((first | refine OpsL.same ?_ | refine OpsDL.same ?_); first | refine oK c8 rfl rfl rfl ?_ | refine oK c9 rfl rfl rfl ?_ | refine oK c11 rfl rfl rfl ?_ | refine oK c10 rfl rfl rfl ?_ | refine oK c13 rfl rfl rfl ?_ | refine oK c12 rfl rfl rfl ?_ | refine oK c14 rfl rfl rfl ?_ | refine oK c15 rfl rfl rfl ?_ | refine oK c16 rfl rfl rfl ?_ | refine oK c17 rfl rfl rfl ?_ | refine oK c18 rfl rfl rfl ?_ | refine oK c19 rfl rfl rfl ?_ | refine oK c20 rfl rfl rfl ?_ | refine oK c21 rfl rfl rfl ?_ | refine oK c22 rfl rfl rfl ?_ | refine oK c23 rfl rfl rfl ?_ | refine oK c14b rfl rfl rfl ?_ | refine oK c15b rfl rfl rfl ?_ | refine oK c20l rfl rfl rfl ?_ | refine oK c21l rfl rfl rfl ?_) | refine MvQ.stay ?_)
          (refine rqK rfl ?_; (repeat' first | exact rfl | (refine qS ?_; constructor)))
    · by_cases g3 : (s.length : Int) ≤ 60000
      · refine pi1 fn3 ?_
        (repeat' first | (refine Owe.same ?_; first | refine Owe.o ?_ | refine Owe.mk ?_ ?_) | (refine Fork.same ?_; (first | refine fkY ?_ | refine fkF ?_ | ((first | refine fkD ?_ ?_ | refine fkN ?_ ?_ | refine fkM ?_ ?_) <;> intro h))) | ((first | refine OpsL.same ?_ | refine OpsDL.same ?_); first | refine oK c8 rfl rfl rfl ?_ | refine oK c9 rfl rfl rfl ?_) | refine MvQ.stay ?_)
        (refine rqK rfl ?_; (repeat' first | exact rfl | (refine qS ?_; constructor)))
      · refine pi1 fn3 ?_
        (repeat' first | (refine Owe.same ?_; first | refine Owe.o ?_ | refine Owe.mk ?_ ?_) | (refine Fork.same ?_; (first | refine fkY ?_ | refine fkF ?_ | ((first | refine fkD ?_ ?_ | refine fkN ?_ ?_ | refine fkM ?_ ?_) <;> intro h))) | ((first | refine OpsL.same ?_ | refine OpsDL.same ?_); first | refine oK c8 rfl rfl rfl ?_ | refine oK c9 rfl rfl rfl ?_) | refine MvQ.stay ?_)
        (refine rqK rfl ?_; (repeat' first | exact rfl | (refine qS ?_; constructor)))
  · rw [decide_eq_false g1] at c9
    refine pi1 fn3 ?_
    (repeat' first | (refine Owe.same ?_; first | refine Owe.o ?_ | refine Owe.mk ?_ ?_) | (refine Fork.same ?_; (first | refine fkY ?_ | refine fkF ?_ | ((first | refine fkD ?_ ?_ | refine fkN ?_ ?_ | refine fkM ?_ ?_) <;> intro h))) | ((first | refine OpsL.same ?_ | refine OpsDL.same ?_); first | refine oK c8 rfl rfl rfl ?_ | refine oK c9 rfl rfl rfl ?_) | refine MvQ.stay ?_)
    (refine rqK rfl ?_; (repeat' first | exact rfl | (refine qS ?_; constructor)))
end Go.Pw

set_option linter.unusedVariables false
namespace Go.Proofs.YtailfkllanegeaaGreatDoor
open Go.ChangeShapes Go.WideShapes Go.ChangeAt Go.RowKit Go.Pw
abbrev laids : List (String × DataW Unit) := Rows.cableStringsRow.laid
theorem var_at {W : World} {name : String} {g : Nat} {cs : Array Value} (hg : Tryz.prog.globalNamed name = some g) (hv : World.var? Tryz.prog W name = some cs) : ∃ t fr, W.heap[g]? = some (.cells cs t fr) := by
  unfold World.var? at hv
  rw [hg, Option.bind_some] at hv
  split at hv
  · rename_i cs' t fr h
    cases hv
    exact ⟨t, fr, h⟩
  · cases hv
set_option maxRecDepth 100000 in
theorem ifc_at {W : World} {name : String} {g : Nat} {cs : Array Value} {fuel : Nat} {d : DataW Unit} {p : List MemPlace} {b : Nat} {sp : Nat → Bool} {hd : Bool} {enc : TypeId × Value → Unit} (hg : Tryz.prog.globalNamed name = some g) (hv : World.var? Tryz.prog W name = some cs)
    (h : DataW.trod enc Tryz.prog W b sp hd fuel 258 cs.toList = some (d, p)) : ifcW W g := by
  obtain ⟨t, fr, hh⟩ := var_at hg hv
  cases fuel with
  | zero => simp [DataW.trod] at h
  | succ fuel =>
    have hu := Tryz.underlying258
    generalize #[("Error", 261)] = ms at hu
    obtain ⟨l⟩ := cs
    simp only [DataW.trod, hu] at h
    split at h
    all_goals first
      | (have q := (by assumption : some (TypeDesc.interface ms) = some _); injection q with q; cases q; done)
      | (cases h; done)
      | exact ⟨.nilIface, by rw [Lib.cell_of_heap hh]; rfl, .inl rfl⟩
      | exact ⟨_, by rw [Lib.cell_of_heap hh]; rfl, .inr ⟨_, _, rfl⟩⟩
set_option maxRecDepth 100000 in
/-- What the listed variables hold. -/
theorem of_laid {W : World} (h : laidMetH Tryz.prog laids W) : LaidW W := by
  rw [MakeChecks.laidMetH_plain _ _ _ (by kernel_rfl)] at h
  obtain ⟨ps, ⟨g0, t0, cs0, f0, p0, q0, hg0, ht0, hv0, hd0, ⟨g1, t1, cs1, f1, p1, q1, hg1, ht1, hv1, hd1, ⟨g2, t2, cs2, f2, p2, q2, hg2, ht2, hv2, hd2, ⟨g3, t3, cs3, f3, p3, q3, hg3, ht3, hv3, hd3, ⟨g4, t4, cs4, f4, p4, q4, hg4, ht4, hv4, hd4, ⟨g5, t5, cs5, f5, p5, q5, hg5, ht5, hv5, hd5, _⟩, _⟩, _⟩, _⟩, _⟩, _⟩, _⟩ := h
  have e2 : g2 = 5 := Option.some.inj (hg2.symm.trans sh_laysM171.m17)
  have e4 : g4 = 2 := Option.some.inj (hg4.symm.trans sh_laysC172.m16)
  have e5 : g5 = 1 := Option.some.inj (hg5.symm.trans sh_laysC172.m15)
  subst e2; subst e4; subst e5
  have k2 : t2 = 361 := Option.some.inj (ht2.symm.trans (by kernel_rfl))
  have k4 : t4 = 258 := Option.some.inj (ht4.symm.trans (by kernel_rfl))
  have k5 : t5 = 258 := Option.some.inj (ht5.symm.trans (by kernel_rfl))
  subst k2; subst k4; subst k5
  refine ⟨?_, ifc_at hg5 hv5 hd5, ifc_at hg4 hv4 hd4⟩
  obtain ⟨t, fr, hh⟩ := var_at hg2 hv2
  have hcs := Lib.cells_of_tab (k := .u64) (zs := Lib.pow10Tab) Tryz.underlying361 Tryz.underlying298 (by kernel_rfl) (by kernel_rfl) hd2
  refine ⟨t, fr, ?_⟩
  rw [hh]
  obtain ⟨l⟩ := cs2
  simp only at hcs
  rw [hcs]
end Go.Proofs.YtailfkllanegeaaGreatDoor
