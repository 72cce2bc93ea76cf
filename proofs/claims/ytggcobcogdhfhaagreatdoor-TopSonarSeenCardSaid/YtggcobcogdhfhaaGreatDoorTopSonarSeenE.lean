/- Proved here at the end: the row named in the last theorem, on no condition. -/
import Derived.Test.YtggcobcogdhfhaaGreatDoorTopSonarSeenD
import Derived.WalkKit
import Derived.BigCall
import Derived.Test.YtggcobcogdhfhaaGreatDoorRows
import Derived.LaidMore
import Derived.OpenShut
import Derived.Lib.LaidTab
import Derived.Test.YtggcobcogdhfhaaGreatDoorCards
import Derived.Test.YtggcobcogdhfhaaGreatDoorTie
import Derived.Lay
import Derived.SevenTiedAt
set_option linter.unusedSimpArgs false
set_option linter.unusedVariables false
set_option maxHeartbeats 1000000
namespace Go.Pw
open Go.RowKit Go.Lib
set_option maxRecDepth 2000
open Go Go.Proofs A1 A2 A3 A4
theorem atoi_i64 {s : By} {v : Int} (h : atoiAll s = .ok v) : i64P v := by
  cases s with
  | nil => cases h
  | cons c r =>
    rw [atoiAll] at h
    split at h
    · cases h
    · cases h
    · rename_i u hu
      split at h
      · cases h
      · split at h
        · cases h
        · rename_i h1 h2
          injection h with h
          subst h
          by_cases hn : c.toNat = 45
          · rw [if_pos hn]
            have : ¬ 9223372036854775808 < u := fun hh => h2 ⟨hn, hh⟩
            omega
          · rw [if_neg hn]
            have : ¬ 9223372036854775808 ≤ u := fun hh => h1 ⟨hn, hh⟩
            omega
theorem C88o {s : By} {v : Int} (h : atoiAll s = .ok v) : s.length ≤ 1000000 → PFD Tryz.prog 88 [sv s] (.tup [vi .i64 v, .c (.d (.v .nilIface))]) := fun hs => by
  have := C88 hs
  unfold atV at this
  rw [h] at this; exact this
theorem C88e {s : By} (h : ∀ v, atoiAll s ≠ .ok v) : s.length ≤ 1000000 → ∃ n, PFD Tryz.prog 88 [sv s] (.tup [vi .i64 n, .c .er]) := fun hs => by
  have := C88 hs
  unfold atV at this
  match e : atoiAll s with
  | .ok v => exact absurd e (h v)
  | Lib.NumEnd.syntax => rw [e] at this; exact ⟨_, this⟩
  | .range => rw [e] at this; exact ⟨_, this⟩
/-- The natural number of three digits at most that a word is; those of words. -/
def ntV (w : By) : Option Int := match numV w 3 with
  | some n => if 0 ≤ n then some n else none
  | none => none
def ntL : List By → Option (List Int)
  | [] => some []
  | w :: r => match ntV w, ntL r with
    | some n, some l => some (n :: l)
    | _, _ => none
def naE (s : By) (n : Int) : List Int × Bool := match ntL (cutG 32 [] s) with
  | some l => (l, decide ((l.length : Int) = n))
  | none => ([], false)
theorem ntL_app {w : By} : ∀ {l : List By} {a : List Int}, ntL l = some a → ntL (l ++ [w]) = match ntV w with | some n => some (a ++ [n]) | none => none
  | [], a, h => by
    cases h
    cases hw : ntV w <;> simp [ntL, hw]
  | x :: l, a, h => by
    rw [ntL] at h
    rw [List.cons_append, ntL]
    split at h
    · rename_i n m hn hm
      cases h
      rw [ntL_app hm, hn]
      cases ntV w <;> simp
    · cases h
theorem ntL_bad {w : By} (hw : ntV w = none) : ∀ {l r : List By}, ntL (l ++ w :: r) = none
  | [], r => by rw [List.nil_append, ntL, hw]
  | x :: l, r => by
    rw [List.cons_append, ntL, ntL_bad hw]
    cases ntV x <;> rfl
theorem naE_bad {s w : By} {n : Int} {dn rr : List By} (h : cutG 32 [] s = dn ++ w :: rr) (hw : ntV w = none) : naE s n = ([], false) := by
  unfold naE
  rw [h, ntL_bad hw]
theorem naE_good {s : By} {n : Int} {l : List Int} (h : ntL (cutG 32 [] s) = some l) : naE s n = (l, decide ((l.length : Int) = n)) := by
  unfold naE
  rw [h]
theorem ntV_ok {w : By} {v : Int} (h1 : atoiAll w = .ok v) (h2 : 0 ≤ v) (h3 : itoa v = w) (h4 : (w.length : Int) ≤ 3) : ntV w = some v := by
  have h := ((nat_iff (d := 3) (by decide)).1 ⟨h1, h2, h3, h4⟩).1
  unfold ntV; rw [h]
  simp [h2]
theorem ntV_no {w : By} (h : ¬ ∃ v, atoiAll w = .ok v ∧ 0 ≤ v ∧ itoa v = w ∧ (w.length : Int) ≤ 3) : ntV w = none := by
  cases hn : numV w 3 with
  | none => unfold ntV; rw [hn]
  | some n =>
    unfold ntV; rw [hn]
    by_cases h0 : 0 ≤ n
    · exact absurd ⟨n, (nat_iff (d := 3) (by decide)).2 ⟨hn, h0⟩⟩ h
    · simp [h0]
theorem C46 {s : By} {n : Int} : s.length ≤ 1000000 → PFD Tryz.prog 46 [sv s, vi .i64 n] (.tup [.c (ints (naE s n).1), vbl (naE s n).2]) := fun hs => by
  refine pi2 fn46 ?_
  (repeat' first | (refine Owe.same ?_; first | refine Owe.o ?_ | refine Owe.mk ?_ ?_) | (refine Fork.same ?_; (first | refine fkD ?_ ?_ | refine fkN ?_ ?_ | refine fkM ?_ ?_) <;> intro h) | refine MvQ.stay ?_)
  refine Ops.cs rfl rfl (CallS.of fn45 rfl ?_)
  (repeat' first | (refine Owe.same ?_; first | refine Owe.o ?_ | refine Owe.mk ?_ ?_) | (refine Fork.same ?_; (first | refine fkD ?_ ?_ | refine fkN ?_ ?_ | refine fkM ?_ ?_) <;> intro h) | refine MvQ.stay ?_)
  refine Ops.cs rfl rfl (CallS.of fn87 rfl ?_)
  (repeat' first | (refine Owe.same ?_; first | refine Owe.o ?_ | refine Owe.mk ?_ ?_) | (refine Fork.same ?_; (first | refine fkD ?_ ?_ | refine fkN ?_ ?_ | refine fkM ?_ ?_) <;> intro h) | refine MvQ.stay ?_)
  refine Sat.keep [1, 4, 5, 6, 11] ?_
  refine Sat.rf rfl rfl (CallS.of fn122 rfl ?_)
  (repeat' first | (refine Owe.same ?_; first | refine Owe.o ?_ | refine Owe.mk ?_ ?_) | (refine Fork.same ?_; (first | refine fkD ?_ ?_ | refine fkN ?_ ?_ | refine fkM ?_ ?_) <;> intro h) | refine MvQ.stay ?_)
  · exact absurd h (by decide)
  refine Sat.nilB 2 0 3 1 (fun i => r1 (([] : List Int).getD i 0)) rfl rfl ?_
  refine Sat.lp (fun st : List Int × By => ⟨[(0, .c (.yd 6)), (1, .c (.bp 4 0)), (2, .c (.bp 3 0)), (3, .c (.bp 5 0))],
      [(0, .box [.d (.v (.slice none 0 0))]), (1, .box [.d (.v (.bool false))]), (2, .box [.ms 7 st.1.length]), (3, .box [.d (svD st.2)]), (4, .box [.d (.v (.string ⟨#[32]⟩))]), (5, .box [int 0]),
       (6, .lp [(1, vi .i64 n), (4, .c (.bp 0 0)), (5, .c (.bp 1 0)), (6, .c (.bp 2 0)), (11, .c (.fn 122 [4, 3, 5]))] .ready none (RR Tryz.prog 44 [12] ra46 rb46)), (7, rowv 3 1 r1 0 st.1)], 8⟩)
    (fun st : List Int × By => st.1.length + st.2.length ≤ 1000000 ∧ ∃ dn, cutG 32 [] s = dn ++ cutG 32 [] st.2 ∧ ntL dn = some st.1) (fun st : List Int × By => st.2.length) ([], s) [7] ⟨by simpa using hs, [], rfl, rfl⟩ ?_ ?_
  · (refine qis ?_ ?_ <;> (repeat' first | exact rfl | (refine qS ?_; constructor)))
  · rintro ⟨acc, rest⟩ ⟨hlen, dn, hcut, hdn⟩
    simp only at hlen hcut hdn
    rcases ix_cases 32 rest with ⟨hi, hm⟩ | ⟨p, r, rfl, hm, hi⟩
    · have h124 := C124 (l := rest) (c := 32)
      rw [hi] at h124
      (repeat' first | (refine Owe.same ?_; first | refine Owe.o ?_ | refine Owe.mk ?_ ?_) | (refine Fork.same ?_; (first | refine fkD ?_ ?_ | refine fkN ?_ ?_ | refine fkM ?_ ?_) <;> intro h) | ((first | refine OpsL.same ?_ | refine OpsDL.same ?_); first | refine pK h124 rfl rfl ?_) | refine MvQ.stay ?_)
      · refine OpsL.as 50 (sv rest) (.refl _) ?_
        by_cases hok : ∃ v, atoiAll rest = .ok v
        · obtain ⟨v, hv⟩ := hok
          have h88 := C88o hv (by omega)
          have h84 := C84 (atoi_i64 hv)
          have bad : (¬ ∃ v, atoiAll rest = .ok v ∧ 0 ≤ v ∧ itoa v = rest ∧ (rest.length : Int) ≤ 3) → naE s n = ([], false) := fun hh => naE_bad (rr := []) (hcut.trans (by rw [cutG_miss hm, List.nil_append])) (ntV_no hh)
          have only : ∀ {v'}, atoiAll rest = .ok v' → v' = v := fun h => by rw [hv] at h; injection h with h; exact h.symm
          refine Ops.yd rfl rfl rfl rfl rfl ?_
          (repeat' first | (refine Owe.same ?_; first | refine Owe.o ?_ | refine Owe.mk ?_ ?_) | (refine Fork.same ?_; (first | refine fkD ?_ ?_ | refine fkN ?_ ?_ | refine fkM ?_ ?_) <;> intro h) | refine MvQ.stay ?_)
          refine And.intro rfl (Exists.intro _ (And.intro rfl ?_))
          (repeat' first | (refine Owe.same ?_; first | refine Owe.o ?_ | refine Owe.mk ?_ ?_) | (refine Fork.same ?_; (first | refine fkD ?_ ?_ | refine fkN ?_ ?_ | refine fkM ?_ ?_) <;> intro h) | ((first | refine OpsL.same ?_ | refine OpsDL.same ?_); first | refine pK h88 rfl rfl ?_ | refine pK h84 rfl rfl ?_) | refine MvQ.stay ?_)
          · refine Exists.intro _ (Exists.intro _ (Exists.intro _ (And.intro rfl ?_)))
            (repeat' first | (refine Owe.same ?_; first | refine Owe.o ?_ | refine Owe.mk ?_ ?_) | (refine Fork.same ?_; (first | refine fkD ?_ ?_ | refine fkN ?_ ?_ | refine fkM ?_ ?_) <;> intro h) | refine MvQ.stay ?_)
            rw [bad (fun ⟨v', h1, h2, _⟩ => by have := only h1; omega)]
            (refine rqK rfl ?_; (repeat' first | exact rfl | (refine qS ?_; constructor)))
          · refine Exists.intro _ (Exists.intro _ (Exists.intro _ (And.intro rfl ?_)))
            (repeat' first | (refine Owe.same ?_; first | refine Owe.o ?_ | refine Owe.mk ?_ ?_) | (refine Fork.same ?_; (first | refine fkD ?_ ?_ | refine fkN ?_ ?_ | refine fkM ?_ ?_) <;> intro h) | refine MvQ.stay ?_)
            rw [bad (fun ⟨v', h1, _, h3, _⟩ => by have := only h1; subst this; exact h (by rw [h3]))]
            (refine rqK rfl ?_; (repeat' first | exact rfl | (refine qS ?_; constructor)))
          · refine Exists.intro _ (Exists.intro _ (Exists.intro _ (And.intro rfl ?_)))
            (repeat' first | (refine Owe.same ?_; first | refine Owe.o ?_ | refine Owe.mk ?_ ?_) | (refine Fork.same ?_; (first | refine fkD ?_ ?_ | refine fkN ?_ ?_ | refine fkM ?_ ?_) <;> intro h) | refine MvQ.stay ?_)
            rw [bad (fun ⟨v', h1, _, _, h4⟩ => by rw [bs_size] at h; omega)]
            (refine rqK rfl ?_; (repeat' first | exact rfl | (refine qS ?_; constructor)))
          · have hz : itoa v = rest := by simpa [bs] using (‹(bs (itoa v)).data.toList = (bs rest).data.toList›)
            have hnt := ntV_ok hv (by omega) hz (by rw [bs_size] at h; omega)
            rw [naE_good (l := acc ++ [v]) (by rw [hcut, cutG_miss hm, List.nil_append, ntL_app hdn, hnt])]
            refine Exists.intro _ (Exists.intro _ (Exists.intro _ (And.intro rfl ?_)))
            (repeat' first | (refine Owe.same ?_; first | refine Owe.o ?_ | refine Owe.mk ?_ ?_) | (refine Fork.same ?_; (first | refine fkD ?_ ?_ | refine fkN ?_ ?_ | refine fkM ?_ ?_) <;> intro h) | refine MvQ.stay ?_)
            refine rqF 0 _ rfl rfl rfl ?_; (repeat' first | exact rfl | (refine qS ?_; constructor))
            · exact ⟨v, rfl, rfl⟩
            · simp
        · obtain ⟨m, h88⟩ := C88e (fun v hv => hok ⟨v, hv⟩) (show rest.length ≤ 1000000 by omega)
          have hbad := naE_bad (n := n) (rr := []) (hcut.trans (by rw [cutG_miss hm, List.nil_append])) (ntV_no (w := rest) (fun ⟨v, hv, _⟩ => hok ⟨v, hv⟩))
          refine Ops.yd rfl rfl rfl rfl rfl ?_
          (repeat' first | (refine Owe.same ?_; first | refine Owe.o ?_ | refine Owe.mk ?_ ?_) | (refine Fork.same ?_; (first | refine fkD ?_ ?_ | refine fkN ?_ ?_ | refine fkM ?_ ?_) <;> intro h) | refine MvQ.stay ?_)
          refine And.intro rfl (Exists.intro _ (And.intro rfl ?_))
          (repeat' first | (refine Owe.same ?_; first | refine Owe.o ?_ | refine Owe.mk ?_ ?_) | (refine Fork.same ?_; (first | refine fkD ?_ ?_ | refine fkN ?_ ?_ | refine fkM ?_ ?_) <;> intro h) | ((first | refine OpsL.same ?_ | refine OpsDL.same ?_); first | refine pK h88 rfl rfl ?_) | refine MvQ.stay ?_)
          refine Exists.intro _ (Exists.intro _ (Exists.intro _ (And.intro rfl ?_)))
          (repeat' first | (refine Owe.same ?_; first | refine Owe.o ?_ | refine Owe.mk ?_ ?_) | (refine Fork.same ?_; (first | refine fkD ?_ ?_ | refine fkN ?_ ?_ | refine fkM ?_ ?_) <;> intro h) | refine MvQ.stay ?_)
          rw [hbad]
          (refine rqK rfl ?_; (repeat' first | exact rfl | (refine qS ?_; constructor)))
      · exact absurd (by decide) h
    · have h124 := C124 (l := p ++ 32 :: r) (c := 32)
      rw [hi] at h124
      have hsz : (bs (p ++ 32 :: r)).size = p.length + r.length + 1 := by rw [bs_size]; simp; omega
      have hs1 : (ByteArray.mk #[32]).size = 1 := rfl
      (repeat' first | (refine Owe.same ?_; first | refine Owe.o ?_ | refine Owe.mk ?_ ?_) | (refine Fork.same ?_; (first | refine fkD ?_ ?_ | refine fkN ?_ ?_ | refine fkM ?_ ?_) <;> intro h) | ((first | refine OpsL.same ?_ | refine OpsDL.same ?_); first | refine pK h124 rfl rfl ?_) | refine MvQ.stay ?_)
      · omega
      · rw [show (bs (acc, p ++ 32 :: r).snd).size = _ from hsz]
        have hlp : p.length + r.length ≤ 1000000 := by simp at hlen; omega
        exact ob
      refine OpsL.as 40 (sv p) ?_ ?_
      · refine VEq.str ?_
        rw [cutB_bs]; simp
      have hlp : p.length + r.length ≤ 1000000 := by simp at hlen; omega
      by_cases hok : ∃ v, atoiAll p = .ok v
      · obtain ⟨v, hv⟩ := hok
        have h88 := C88o hv (by omega)
        have h84 := C84 (atoi_i64 hv)
        refine Ops.yd rfl rfl rfl rfl rfl ?_
        (repeat' first | (refine Owe.same ?_; first | refine Owe.o ?_ | refine Owe.mk ?_ ?_) | (refine Fork.same ?_; (first | refine fkD ?_ ?_ | refine fkN ?_ ?_ | refine fkM ?_ ?_) <;> intro h) | refine MvQ.stay ?_)
        refine And.intro rfl (Exists.intro _ (And.intro rfl ?_))
        have bad : (¬ ∃ v, atoiAll p = .ok v ∧ 0 ≤ v ∧ itoa v = p ∧ (p.length : Int) ≤ 3) → naE s n = ([], false) := fun hh => naE_bad (hcut.trans (by rw [cutG_hit hm, List.nil_append])) (ntV_no hh)
        have only : ∀ {v'}, atoiAll p = .ok v' → v' = v := fun h => by rw [hv] at h; injection h with h; exact h.symm
        (repeat' first | (refine Owe.same ?_; first | refine Owe.o ?_ | refine Owe.mk ?_ ?_) | (refine Fork.same ?_; (first | refine fkD ?_ ?_ | refine fkN ?_ ?_ | refine fkM ?_ ?_) <;> intro h) | ((first | refine OpsL.same ?_ | refine OpsDL.same ?_); first | refine pK h88 rfl rfl ?_ | refine pK h84 rfl rfl ?_) | refine MvQ.stay ?_)
        · refine Exists.intro _ (Exists.intro _ (Exists.intro _ (And.intro rfl ?_)))
          (repeat' first | (refine Owe.same ?_; first | refine Owe.o ?_ | refine Owe.mk ?_ ?_) | (refine Fork.same ?_; (first | refine fkD ?_ ?_ | refine fkN ?_ ?_ | refine fkM ?_ ?_) <;> intro h) | refine MvQ.stay ?_)
          rw [bad (fun ⟨v', h1, h2, _⟩ => by have := only h1; omega)]
          (refine rqK rfl ?_; (repeat' first | exact rfl | (refine qS ?_; constructor)))
        · refine Exists.intro _ (Exists.intro _ (Exists.intro _ (And.intro rfl ?_)))
          (repeat' first | (refine Owe.same ?_; first | refine Owe.o ?_ | refine Owe.mk ?_ ?_) | (refine Fork.same ?_; (first | refine fkD ?_ ?_ | refine fkN ?_ ?_ | refine fkM ?_ ?_) <;> intro h) | refine MvQ.stay ?_)
          rw [bad (fun ⟨v', h1, _, h3, _⟩ => by have := only h1; subst this; exact h (by rw [h3]))]
          (refine rqK rfl ?_; (repeat' first | exact rfl | (refine qS ?_; constructor)))
        · refine Exists.intro _ (Exists.intro _ (Exists.intro _ (And.intro rfl ?_)))
          (repeat' first | (refine Owe.same ?_; first | refine Owe.o ?_ | refine Owe.mk ?_ ?_) | (refine Fork.same ?_; (first | refine fkD ?_ ?_ | refine fkN ?_ ?_ | refine fkM ?_ ?_) <;> intro h) | refine MvQ.stay ?_)
          rw [bad (fun ⟨v', h1, _, _, h4⟩ => by rw [bs_size] at h; omega)]
          (refine rqK rfl ?_; (repeat' first | exact rfl | (refine qS ?_; constructor)))
        · refine Exists.intro _ (Exists.intro _ (Exists.intro _ (And.intro rfl ?_)))
          (repeat' first | (refine Owe.same ?_; first | refine Owe.o ?_ | refine Owe.mk ?_ ?_) | (refine Fork.same ?_; (first | refine fkD ?_ ?_ | refine fkN ?_ ?_ | refine fkM ?_ ?_) <;> intro h) | refine MvQ.stay ?_)
          have hz : itoa v = p := by simpa [bs] using (‹(bs (itoa v)).data.toList = (bs p).data.toList›)
          have hnt := ntV_ok hv (by omega) hz (by rw [bs_size] at h; omega)
          refine again (acc ++ [v], r) [8] ⟨by simp at hlen ⊢; omega, dn ++ [p], by rw [hcut, cutG_hit hm]; simp, by rw [ntL_app hdn, hnt]⟩ (by simp; omega) ?_
          (refine qis ?_ ?_ <;> (repeat' first | exact rfl | (refine qS ?_; constructor)))
          · simp
          · refine CEq.str ?_
            have e : ((p.length : Int) + ((ByteArray.mk #[32]).size : Nat)).toNat = p.length + 1 := by rw [hs1]; omega
            rw [e]
            simp [bs]
      · obtain ⟨m, h88⟩ := C88e (fun v hv => hok ⟨v, hv⟩) (show p.length ≤ 1000000 by omega)
        have hbad := naE_bad (n := n) (hcut.trans (by rw [cutG_hit hm, List.nil_append])) (ntV_no (w := p) (fun ⟨v, hv, _⟩ => hok ⟨v, hv⟩))
        refine Ops.yd rfl rfl rfl rfl rfl ?_
        (repeat' first | (refine Owe.same ?_; first | refine Owe.o ?_ | refine Owe.mk ?_ ?_) | (refine Fork.same ?_; (first | refine fkD ?_ ?_ | refine fkN ?_ ?_ | refine fkM ?_ ?_) <;> intro h) | refine MvQ.stay ?_)
        refine And.intro rfl (Exists.intro _ (And.intro rfl ?_))
        (repeat' first | (refine Owe.same ?_; first | refine Owe.o ?_ | refine Owe.mk ?_ ?_) | (refine Fork.same ?_; (first | refine fkD ?_ ?_ | refine fkN ?_ ?_ | refine fkM ?_ ?_) <;> intro h) | ((first | refine OpsL.same ?_ | refine OpsDL.same ?_); first | refine pK h88 rfl rfl ?_) | refine MvQ.stay ?_)
        refine Exists.intro _ (Exists.intro _ (Exists.intro _ (And.intro rfl ?_)))
        (repeat' first | (refine Owe.same ?_; first | refine Owe.o ?_ | refine Owe.mk ?_ ?_) | (refine Fork.same ?_; (first | refine fkD ?_ ?_ | refine fkN ?_ ?_ | refine fkM ?_ ?_) <;> intro h) | refine MvQ.stay ?_)
        rw [hbad]
        (refine rqK rfl ?_; (repeat' first | exact rfl | (refine qS ?_; constructor)))
end Go.Pw

set_option linter.unusedSimpArgs false
set_option linter.unusedVariables false
set_option maxHeartbeats 1000000
namespace Go.Pw
open Go.RowKit Go.Lib
set_option maxRecDepth 2000
open Go Go.Proofs A1 A2 A3 A4
/-- All of what each of the pieces is. -/
def alL {α : Type} (f : By → Option α) : List By → Option (List α)
  | [] => some []
  | w :: r => match f w, alL f r with
    | some n, some l => some (n :: l)
    | _, _ => none
theorem alL_app {α : Type} {f : By → Option α} {w : By} : ∀ {l : List By} {a : List α}, alL f l = some a → alL f (l ++ [w]) = match f w with | some n => some (a ++ [n]) | none => none
  | [], a, h => by
    cases h
    cases hw : f w <;> simp [alL, hw]
  | x :: l, a, h => by
    rw [alL] at h
    rw [List.cons_append, alL]
    split at h
    · rename_i n m hn hm
      cases h
      rw [alL_app hm, hn]
      cases f w <;> simp
    · cases h
theorem alL_bad {α : Type} {f : By → Option α} {w : By} (hw : f w = none) : ∀ {l r : List By}, alL f (l ++ w :: r) = none
  | [], r => by rw [List.nil_append, alL, hw]
  | x :: l, r => by
    rw [List.cons_append, alL, alL_bad hw]
    cases f x <;> rfl
/-- So many naturals. -/
def ntN (s : By) (n : Int) : Option (List Int) := if (naE s n).2 = true then some (naE s n).1 else none
theorem C46y {s : By} {n : Int} {l : List Int} (h : ntN s n = some l) (hs : s.length ≤ 1000000) : PFD Tryz.prog 46 [sv s, vi .i64 n] (.tup [.c (ints l), vbl true]) := by
  unfold ntN at h
  split at h
  · rename_i h1
    injection h with h
    have := C46 (n := n) hs
    rw [h1, h] at this; exact this
  · cases h
theorem C46x {s : By} {n : Int} (h : ntN s n = none) (hs : s.length ≤ 1000000) : ∃ l, PFD Tryz.prog 46 [sv s, vi .i64 n] (.tup [.c (ints l), vbl false]) := by
  unfold ntN at h
  split at h
  · cases h
  · rename_i h1
    have := C46 (n := n) hs
    rw [show (naE s n).2 = false by simpa using h1] at this
    exact ⟨_, this⟩
theorem ntN_len {s : By} {n : Int} {l : List Int} (h : ntN s n = some l) : (l.length : Int) = n := by
  unfold ntN at h
  split at h
  · rename_i h1
    injection h with h
    subst h
    unfold naE at h1 ⊢
    cases hl : ntL (cutG 32 [] s) with
    | none => rw [hl] at h1; cases h1
    | some l => rw [hl] at h1; simpa using h1
  · cases h
end Go.Pw

set_option linter.unusedSimpArgs false
set_option linter.unusedVariables false
set_option maxHeartbeats 1000000
set_option maxRecDepth 20000
namespace Go.Pw
open Go.RowKit Go.Lib
set_option maxRecDepth 2000
open Go Go.Proofs A1 A2 A3 A4
/-- A fact that is kept out of sight. -/
structure Hd (p : Prop) : Prop where
  h : p
end Go.Pw

set_option linter.unusedSimpArgs false
set_option linter.unusedVariables false
set_option maxHeartbeats 1000000
namespace Go.Pw
open Go.RowKit Go.Lib
set_option maxRecDepth 2000
open Go Go.Proofs A1 A2 A3 A4
end Go.Pw

set_option linter.unusedSimpArgs false
set_option linter.unusedVariables false
set_option maxHeartbeats 1000000
namespace Go.Pw
open Go.RowKit Go.Lib
set_option maxRecDepth 2000
open Go Go.Proofs A1 A2 A3 A4
end Go.Pw

set_option linter.unusedSimpArgs false
set_option linter.unusedVariables false
set_option maxHeartbeats 1000000
namespace Go.Pw
open Go.RowKit Go.Lib
set_option maxRecDepth 2000
open Go Go.Proofs A1 A2 A3 A4
theorem ntL_len : ∀ {l : List By} {a : List Int}, ntL l = some a → a.length = l.length
  | [], a, h => by cases h; rfl
  | x :: l, a, h => by
    rw [ntL] at h
    split at h
    · rename_i n m hn hm
      cases h
      rw [List.length_cons, List.length_cons, ntL_len hm]
    · cases h
theorem ntN_of {s : By} {n : Int} {l : List Int} (h : ntL (cutG 32 [] s) = some l) (hl : ((cutG 32 [] s).length : Int) = n) : ntN s n = some l := by
  unfold ntN
  rw [naE_good h, ntL_len h, hl]; simp
end Go.Pw

set_option linter.unusedSimpArgs false
set_option linter.unusedVariables false
set_option maxHeartbeats 1000000
namespace Go.Pw
open Go.RowKit Go.Lib
set_option maxRecDepth 2000
open Go Go.Proofs A1 A2 A3 A4
end Go.Pw

set_option linter.unusedSimpArgs false
set_option linter.unusedVariables false
namespace Go.Pw
set_option maxRecDepth 2000
open Go Go.Proofs A1 A2 A3 A4
theorem ray_eqB {a b : Ry} : (decide (a.1.1 = b.1.1) && decide (a.1.2 = b.1.2) && decide (a.2.1.1 = b.2.1.1) && decide (a.2.1.2 = b.2.1.2) && (a.2.2 == b.2.2)) = decide (a = b) := by
  rw [Bool.eq_iff_iff]; simp [Prod.ext_iff, and_assoc]
theorem C19 {a b : Sc} : a.2.2.length < 4611686018427387904 → PFD Tryz.prog 19 [scv a, scv b] (vbl (decide (a = b))) := fun hl => by
  refine pi1 fn19 ?_
  (repeat' first | (refine Owe.same ?_; first | refine Owe.o ?_ | refine Owe.mk ?_ ?_) | (refine Fork.same ?_; (first | refine fkD ?_ ?_ | refine fkN ?_ ?_ | refine fkM ?_ ?_) <;> intro h) | refine MvQ.stay ?_)
  · (refine rqK rfl ?_; (repeat' first | exact rfl | (refine qS ?_; constructor))); simp only [decide_eq_false_iff_not]; intro he; exact h (congrArg (·.1) he)
  · (refine rqK rfl ?_; (repeat' first | exact rfl | (refine qS ?_; constructor))); simp only [decide_eq_false_iff_not]; intro he; exact h (congrArg (·.2.1) he)
  · (refine rqK rfl ?_; (repeat' first | exact rfl | (refine qS ?_; constructor))); simp only [decide_eq_false_iff_not]; intro he; subst he; exact h rfl
  · rename_i h1 h2
    have hlm : a.2.2.length = b.2.2.length := by omega
    (repeat' first | (refine Owe.same ?_; first | refine Owe.o ?_ | refine Owe.mk ?_ ?_) | (refine Fork.same ?_; (first | refine fkD ?_ ?_ | refine fkN ?_ ?_ | refine fkM ?_ ?_) <;> intro h) | refine MvQ.stay ?_)
    refine Sat.lp0 (fun k : Nat => [(5, vi .i64 k), (2, .c (.rp (scD a))), (3, .c (.rp (scD b)))]) (fun k => k ≤ a.2.2.length ∧ ∀ i, i < k → a.2.2.getD i ryd = b.2.2.getD i ryd) (fun k => a.2.2.length - k) 0 ⟨Nat.zero_le _, fun i hi => by omega⟩ (by ((first | refine qen ?_ | refine qvs ?_ | refine qeq ?_ | refine qst ?_ | refine qv ?_ | refine qc ?_ | refine qe ?_ | refine qcs ?_ | skip); (repeat' first | exact rfl | (refine qS ?_; constructor)))) ?_
    intro k hk
    (repeat' first | (refine Owe.same ?_; first | refine Owe.o ?_ | refine Owe.mk ?_ ?_) | (refine Fork.same ?_; (first | refine fkD ?_ ?_ | refine fkN ?_ ?_ | refine fkM ?_ ?_) <;> intro h) | refine MvQ.stay ?_)
    · rw [ray_eqB] at h
      (refine rqK rfl ?_; (repeat' first | exact rfl | (refine qS ?_; constructor))); simp only [decide_eq_false_iff_not]; intro he; subst he; simp at h
    · rw [ray_eqB] at h
      refine again0 (k + 1) ⟨by omega, fun i hi => ?_⟩ (by omega) (by ((first | refine qen ?_ | refine qvs ?_ | refine qeq ?_ | refine qst ?_ | refine qv ?_ | refine qc ?_ | refine qe ?_ | refine qcs ?_ | skip); (repeat' first | exact rfl | (refine qS ?_; constructor))))
      rcases Nat.lt_succ_iff_lt_or_eq.1 hi with h3 | rfl
      · exact hk.2 i h3
      · simpa using h
    · (refine rqK rfl ?_; (repeat' first | exact rfl | (refine qS ?_; constructor))); simp only [decide_eq_true_eq]
      refine Prod.ext h1 (Prod.ext h2 (ext_getD ryd hlm fun i hi => hk.2 i (by omega)))
end Go.Pw

set_option linter.unusedSimpArgs false
set_option linter.unusedVariables false
set_option maxHeartbeats 2000000
namespace Go.Pw
set_option maxRecDepth 2000
open Go Go.Proofs A1 A2 A3 A4
end Go.Pw

set_option linter.unusedSimpArgs false
set_option linter.unusedVariables false
set_option maxHeartbeats 1000000
namespace Go.Pw
open Go.RowKit Go.Lib
set_option maxRecDepth 2000
open Go Go.Proofs A1 A2 A3 A4
theorem i64_5 {a b c d e : Int} (h1 : i64P a) (h2 : i64P b) (h3 : i64P c) (h4 : i64P d) (h5 : i64P e) : ∀ n ∈ [a, b, c, d, e], i64P n := fun n hn => by
  simp only [List.mem_cons, List.not_mem_nil, or_false] at hn
  rcases hn with rfl | rfl | rfl | rfl | rfl <;> assumption
abbrev b01 (b : Bool) : Int := if b then 1 else 0
theorem b01_i64 (b : Bool) : i64P (b01 b) := by cases b <;> decide
/-- A ray, a scene as strings. -/
def ryW (r : Ry) : By := wdS [r.1.1, r.1.2, r.2.1.1, r.2.1.2, b01 r.2.2]
def scS (s : Sc) : By := jnG 59 (wdS [s.1, s.2.1] :: s.2.2.map ryW)
abbrev w64R (r : Ry) : Prop := (i64P r.1.1 ∧ i64P r.1.2) ∧ i64P r.2.1.1 ∧ i64P r.2.1.2
abbrev w64S (s : Sc) : Prop := i64P s.1 ∧ i64P s.2.1 ∧ ∀ r ∈ s.2.2, w64R r
theorem ry_len {r : Ry} (h : w64R r) : (ryW r).length ≤ 110 := wd_len (i64_5 h.1.1 h.1.2 h.2.1 h.2.2 (b01_i64 _))
theorem hd_len {a b : Int} (h1 : i64P a) (h2 : i64P b) : (wdS [a, b]).length ≤ 44 := wd_len (fun n hn => by
  simp only [List.mem_cons, List.not_mem_nil, or_false] at hn
  rcases hn with rfl | rfl <;> assumption)
theorem sc_len {s : Sc} (h : w64S s) : (scS s).length ≤ (s.2.2.length + 1) * 111 := by
  have := jn_len (c := 59) (M := 110) (l := wdS [s.1, s.2.1] :: s.2.2.map ryW) (fun x hx => by
    rcases List.mem_cons.1 hx with h1 | h1
    · subst h1; have := hd_len h.1 h.2.1; omega
    · obtain ⟨d, hd, rfl⟩ := List.mem_map.1 h1
      exact ry_len (h.2.2 d hd))
  rw [List.length_cons, List.length_map] at this; exact this
theorem sc_step {a b : Int} {l : List Ry} {k : Nat} (h : k < l.length) : scS (a, b, l.take (k + 1)) = scS (a, b, l.take k) ++ 59 :: ryW (l.getD k ryd) := by
  unfold scS
  simp only
  rw [tk1 ryd h, List.map_append, ← List.cons_append]
  exact jn_app (by simp)
end Go.Pw

set_option linter.unusedSimpArgs false
set_option linter.unusedVariables false
set_option maxHeartbeats 1000000
namespace Go.Pw
open Go.RowKit Go.Lib
set_option maxRecDepth 2000
open Go Go.Proofs A1 A2 A3 A4
/-- A ray, the size, a scene out of a string. -/
def ryP (p : By) : Option Ry := match ntN p 5 with
  | some [a, b, c, d, e] => if e ≤ 1 then some ((a, b), (c, d), decide (e = 1)) else none
  | _ => none
def hdP (p : By) : Option (Int × Int) := match ntN p 2 with
  | some [a, b] => some (a, b)
  | _ => none
def psV (h : By) (r : List By) : Sc × Int := match hdP h, alL ryP r with
  | some (a, b), some l => if (scE (a, b, l)).2 = 0 then ((a, b, l), 0) else ((0, 0, []), (scE (a, b, l)).2)
  | _, _ => ((0, 0, []), 7)
def psE (s : By) : Sc × Int := match cutG 59 [] s with
  | [] => ((0, 0, []), 7)
  | h :: r => psV h r
theorem ryP_n {p : By} (h : ryP p = none) : ntN p 5 = none ∨ ∃ a b c d e, ntN p 5 = some [a, b, c, d, e] ∧ 1 < e := by
  unfold ryP at h
  split at h
  · rename_i a b c d e h1
    split at h
    · cases h
    · exact .inr ⟨a, b, c, d, e, h1, by omega⟩
  · rename_i h1
    cases hn : ntN p 5 with
    | none => exact .inl rfl
    | some l =>
      have hl := ntN_len hn
      match l, hl, hn with
      | [a, b, c, d, e], _, hn => exact absurd hn (h1 a b c d e)
      | [], hl, _ => simp at hl
      | [_], hl, _ => simp at hl
      | [_, _], hl, _ => simp at hl
      | [_, _, _], hl, _ => simp at hl
      | [_, _, _, _], hl, _ => simp at hl
      | _ :: _ :: _ :: _ :: _ :: _ :: _, hl, _ => simp at hl; omega
theorem ryP_y {p : By} {r : Ry} (h : ryP p = some r) : ∃ e, ntN p 5 = some [r.1.1, r.1.2, r.2.1.1, r.2.1.2, e] ∧ e ≤ 1 ∧ r.2.2 = decide (e = 1) := by
  unfold ryP at h
  split at h
  · rename_i a b c d e h1
    split at h
    · rename_i h2; cases h; exact ⟨e, h1, h2, rfl⟩
    · cases h
  · cases h
theorem hdP_n {p : By} (h : hdP p = none) : ntN p 2 = none := by
  unfold hdP at h
  split at h
  · cases h
  · rename_i h1
    cases hn : ntN p 2 with
    | none => rfl
    | some l =>
      have hl := ntN_len hn
      match l, hl, hn with
      | [a, b], _, hn => exact absurd hn (h1 a b)
      | [], hl, _ => simp at hl
      | [_], hl, _ => simp at hl
      | _ :: _ :: _ :: _, hl, _ => simp at hl; omega
theorem hdP_y {p : By} {a b : Int} (h : hdP p = some (a, b)) : ntN p 2 = some [a, b] := by
  unfold hdP at h
  split at h
  · rename_i h1; cases h; exact h1
  · cases h
theorem psE_of {s h : By} {r : List By} (e : cutG 59 [] s = h :: r) : psE s = psV h r := by
  unfold psE; rw [e]
theorem psV_h {h : By} {r : List By} (e : hdP h = none) : psV h r = ((0, 0, []), 7) := by
  unfold psV; rw [e]
theorem psV_r {h : By} {r : List By} (e : alL ryP r = none) : psV h r = ((0, 0, []), 7) := by
  unfold psV; rw [e]
  cases hdP h <;> rfl
theorem psV_y {h : By} {r : List By} {a b : Int} {l : List Ry} (e1 : hdP h = some (a, b)) (e : alL ryP r = some l) : psV h r = if (scE (a, b, l)).2 = 0 then ((a, b, l), 0) else ((0, 0, []), (scE (a, b, l)).2) := by
  unfold psV; rw [e1, e]
end Go.Pw

set_option linter.unusedSimpArgs false
set_option linter.unusedVariables false
set_option maxHeartbeats 1000000
namespace Go.Pw
open Go.RowKit Go.Lib
set_option maxRecDepth 2000
open Go Go.Proofs A1 A2 A3 A4
/-- The pieces behind a piece, if there are more. -/
abbrev moreL (m : Bool) (r : By) : List By := match m with | true => cutG 59 [] r | false => []
theorem C48e {s : By} (hs : s.length ≤ 1000000) : ∃ p r m, PFD Tryz.prog 48 [sv s, .c (.d (.v (.string ⟨#[59]⟩)))] (.tup [sv p, sv r, vbl m]) ∧ cutG 59 [] s = p :: moreL m r ∧ p.length ≤ s.length ∧ (m = true → r.length < s.length) := by
  rcases ix_cases 59 s with ⟨hi, hm⟩ | ⟨p, r, rfl, hm, hi⟩
  · exact ⟨s, [], false, C48m hm, by rw [cutG_miss hm]; rfl, Nat.le_refl _, by simp⟩
  · exact ⟨p, r, true, C48h hm (by simp at hs; omega), by rw [cutG_hit hm]; rfl, by simp, fun _ => by simp; omega⟩
abbrev mzN (m : Bool) (r : By) : Nat := match m with | true => r.length + 1 | false => 0
theorem C13 {s : By} : s.length ≤ 60000 → PFD Tryz.prog 13 [sv s] (.tup [scv (psE s).1, vi .i64 (psE s).2]) := fun hs => by
  have hz : (bs s).size = s.length := bs_size s
  obtain ⟨p0, r0, m0, h48, hcut, hp0, hr0⟩ := C48e (s := s) (by omega)
  rw [psE_of hcut]
  cases hh : hdP p0 with
  | none =>
    obtain ⟨l, h46⟩ := C46x (hdP_n hh) (show p0.length ≤ 1000000 by omega)
    rw [psV_h hh]
    refine pi2 fn13 ?_
    (repeat' first | (refine Owe.same ?_; first | refine Owe.o ?_ | refine Owe.mk ?_ ?_) | (refine Fork.same ?_; (first | refine fkY ?_ | refine fkF ?_ | ((first | refine fkD ?_ ?_ | refine fkN ?_ ?_ | refine fkM ?_ ?_) <;> intro h))) | ((first | refine OpsL.same ?_ | refine OpsDL.same ?_); first | refine oK h48 rfl rfl rfl ?_ | refine oK h46 rfl rfl rfl ?_) | refine MvQ.stay ?_)
    (refine rqK rfl ?_; (repeat' first | exact rfl | (refine qS ?_; constructor)))
  | some ab =>
    obtain ⟨a, b⟩ := ab
    have h46 := C46y (hdP_y hh) (show p0.length ≤ 1000000 by omega)
    have hrb : Hd (m0 = true → r0.length ≤ 60000) := ⟨fun h => by have := hr0 h; omega⟩
    clear hr0 hcut
    refine pi2 fn13 ?_
    (repeat' first | (refine Owe.same ?_; first | refine Owe.o ?_ | refine Owe.mk ?_ ?_) | (refine Fork.same ?_; (first | refine fkY ?_ | refine fkF ?_ | ((first | refine fkD ?_ ?_ | refine fkN ?_ ?_ | refine fkM ?_ ?_) <;> intro h))) | ((first | refine OpsL.same ?_ | refine OpsDL.same ?_); first | refine oK h48 rfl rfl rfl ?_ | refine oK h46 rfl rfl rfl ?_) | refine MvQ.stay ?_)
    refine Sat.nilB 8 2 51 5 (fun i => r5 (([] : List Ry).getD i ryd)) rfl rfl ?_
    refine Sat.lp (fun st : List Ry × By × Bool => ⟨[(2, .c (.bp 0 0)), (5, sv st.2.1), (6, vbl st.2.2), (9, .c (.bp 1 0))],
        [(0, .box [int 0, int 0, .d (.v (.slice none 0 0))]), (1, .box [int a, int b, .ms 2 st.1.length]), (2, rowv 51 5 r5 ryd st.1)], 3⟩)
      (fun st : List Ry × By × Bool => st.1.length + mzN st.2.2 st.2.1 ≤ 60001 ∧ Hd (∃ dn, moreL m0 r0 = dn ++ moreL st.2.2 st.2.1 ∧ alL ryP dn = some st.1)) (fun st : List Ry × By × Bool => mzN st.2.2 st.2.1) ([], r0, m0) [0, 8, 10]
      ⟨by cases m0 with
        | true => have := hrb.h rfl; show 0 + (r0.length + 1) ≤ 60001; omega
        | false => simp, ⟨[], rfl, rfl⟩⟩ ?_ ?_
    · (refine qis ?_ ?_ <;> (repeat' first | exact rfl | (refine qS ?_; constructor)))
    · rintro ⟨acc, rest, m⟩ ⟨hn, hi⟩
      simp only at hn hi
      cases m with
      | false =>
        obtain ⟨dn, hdn, ha⟩ := hi.h
        have hdn : moreL m0 r0 = dn := by rw [hdn]; exact List.append_nil _
        rw [← hdn] at ha
        rw [psV_y hh ha]
        have h49 := C49 (s := (a, b, acc)) (by show acc.length ≤ _; omega)
        by_cases h0 : (scE (a, b, acc)).2 = 0
        · rw [if_pos h0]
          rw [h0] at h49
          (repeat' first | (refine Owe.same ?_; first | refine Owe.o ?_ | refine Owe.mk ?_ ?_) | (refine Fork.same ?_; (first | refine fkD ?_ ?_ | refine fkN ?_ ?_ | refine fkM ?_ ?_) <;> intro h))
          · cases h
          refine MvQ.frzX 1 2 2 rfl rfl rfl (Nat.le_refl _) ?_
          (repeat' first | (refine Owe.same ?_; first | refine Owe.o ?_ | refine Owe.mk ?_ ?_) | (refine Fork.same ?_; (first | refine fkY ?_ | refine fkF ?_ | ((first | refine fkD ?_ ?_ | refine fkN ?_ ?_ | refine fkM ?_ ?_) <;> intro h))) | ((first | refine OpsL.same ?_ | refine OpsDL.same ?_); first | refine oK h49 rfl rfl rfl ?_) | refine MvQ.stay ?_)
          (refine rqK rfl ?_; (repeat' first | exact rfl | (refine qS ?_; constructor)))
        · rw [if_neg h0]
          (repeat' first | (refine Owe.same ?_; first | refine Owe.o ?_ | refine Owe.mk ?_ ?_) | (refine Fork.same ?_; (first | refine fkD ?_ ?_ | refine fkN ?_ ?_ | refine fkM ?_ ?_) <;> intro h))
          · cases h
          refine MvQ.frzX 1 2 2 rfl rfl rfl (Nat.le_refl _) ?_
          (repeat' first | (refine Owe.same ?_; first | refine Owe.o ?_ | refine Owe.mk ?_ ?_) | (refine Fork.same ?_; (first | refine fkY ?_ | refine fkF ?_ | ((first | refine fkD ?_ ?_ | refine fkN ?_ ?_ | refine fkM ?_ ?_) <;> intro h))) | ((first | refine OpsL.same ?_ | refine OpsDL.same ?_); first | refine oK h49 rfl rfl rfl ?_) | refine MvQ.stay ?_)
          (refine rqK rfl ?_; (repeat' first | exact rfl | (refine qS ?_; constructor)))
      | true =>
        have hn : acc.length + (rest.length + 1) ≤ 60001 := hn
        obtain ⟨p, r, m', h48', hc', hp', hr'⟩ := C48e (s := rest) (by omega)
        cases hd : ryP p with
        | none =>
          obtain ⟨dn, hdn, ha⟩ := hi.h
          have hdn : moreL m0 r0 = dn ++ p :: moreL m' r := by rw [hdn]; show dn ++ cutG 59 [] rest = _; rw [hc']
          rw [psV_r (by rw [hdn]; exact alL_bad hd)]
          rcases ryP_n hd with hn | ⟨a', b', c', d', e', hn, he⟩
          · obtain ⟨l, h46'⟩ := C46x hn (show p.length ≤ 1000000 by omega)
            (repeat' first | (refine Owe.same ?_; first | refine Owe.o ?_ | refine Owe.mk ?_ ?_) | (refine Fork.same ?_; (first | refine fkY ?_ | refine fkF ?_ | ((first | refine fkD ?_ ?_ | refine fkN ?_ ?_ | refine fkM ?_ ?_) <;> intro h))) | ((first | refine OpsL.same ?_ | refine OpsDL.same ?_); first | refine oK h48' rfl rfl rfl ?_ | refine oK h46' rfl rfl rfl ?_) | refine MvQ.stay ?_)
            (refine rqK rfl ?_; (repeat' first | exact rfl | (refine qS ?_; constructor)))
          · have h46' := C46y hn (show p.length ≤ 1000000 by omega)
            have he4 : 1 < [a', b', c', d', e'].getD (Int.toNat 4) 0 := he
            (repeat' first | (refine Owe.same ?_; first | refine Owe.o ?_ | refine Owe.mk ?_ ?_) | (refine Fork.same ?_; (first | refine fkY ?_ | refine fkF ?_ | ((first | refine fkD ?_ ?_ | refine fkN ?_ ?_ | refine fkM ?_ ?_) <;> intro h))) | ((first | refine OpsL.same ?_ | refine OpsDL.same ?_); first | refine oK h48' rfl rfl rfl ?_ | refine oK h46' rfl rfl rfl ?_) | refine MvQ.stay ?_)
            (refine rqK rfl ?_; (repeat' first | exact rfl | (refine qS ?_; constructor)))
        | some q =>
          obtain ⟨e', hn', he, hq⟩ := ryP_y hd
          have h46' := C46y hn' (show p.length ≤ 1000000 by omega)
          have he4 : [q.1.1, q.1.2, q.2.1.1, q.2.1.2, e'].getD (Int.toNat 4) 0 ≤ 1 := he
          have hi2 : Hd (∃ dn, moreL m0 r0 = dn ++ moreL m' r ∧ alL ryP dn = some (acc ++ [q])) := by
            obtain ⟨dn, hdn, ha⟩ := hi.h
            have hdn : moreL m0 r0 = dn ++ p :: moreL m' r := by rw [hdn]; show dn ++ cutG 59 [] rest = _; rw [hc']
            exact ⟨dn ++ [p], by rw [hdn]; simp, by rw [alL_app ha, hd]⟩
          have hd := Hd.mk hd
          have hc' := Hd.mk hc'
          (repeat' first | (refine Owe.same ?_; first | refine Owe.o ?_ | refine Owe.mk ?_ ?_) | (refine Fork.same ?_; (first | refine fkY ?_ | refine fkF ?_ | ((first | refine fkD ?_ ?_ | refine fkN ?_ ?_ | refine fkM ?_ ?_) <;> intro h))) | ((first | refine OpsL.same ?_ | refine OpsDL.same ?_); first | refine oK h48' rfl rfl rfl ?_ | refine oK h46' rfl rfl rfl ?_) | refine MvQ.stay ?_)
          refine again (acc ++ [q], r, m') [0, 1, 4] ⟨?_, hi2⟩ ?_ ?_
          · cases m' with
            | true => have := hr' rfl; show (acc ++ [q]).length + (r.length + 1) ≤ 60001; simp; omega
            | false => show (acc ++ [q]).length + 0 ≤ 60001; simp; omega
          · cases m' with
            | true => have := hr' rfl; show r.length + 1 < rest.length + 1; omega
            | false => show 0 < rest.length + 1; omega
          (refine qis ?_ ?_ <;> (repeat' first | exact rfl | (refine qS ?_; constructor)))
          · simp
          · refine ⟨q, ?_, rfl⟩
            show [dI q.1.1, dI q.1.2, dI q.2.1.1, dI q.2.1.2, D.v (Value.bool (decide (e' = 1)))] = r5 q
            rw [← hq]
end Go.Pw

set_option linter.unusedSimpArgs false
set_option linter.unusedVariables false
namespace Go.Pw
open Go.RowKit Go.Lib
set_option maxRecDepth 2000
open Go Go.Proofs A1 A2 A3 A4
/-- A contract over data, as a call from a memory all of which may be read. -/
theorem PFD.calls {P : Program} {f : FuncId} {args : List V} {v : V} (h : PFD P f args v) {w : World} {us : Array Value} (hlay : LayOk (fun k => k < w.heap.size) w)
    (hr : RepL ⟨fun k => k < w.heap.size, fun _ => none, fun _ => none⟩ w args us) : Calls P f us w fun e w' => ∃ u Γ', e = .returned u ∧ RepV Γ' w' v u ∧ Below w.heap.size w w' := by
  obtain ⟨hent, _, hc⟩ := h.h
  have hst : StoreOk ⟨fun k => k < w.heap.size, fun _ => none, fun _ => none⟩ w [] := storeOk_nil (fun k hk => hk) hlay
  refine (hc _ w us hst (fun _ _ _ => rfl) hr).mono fun e w' ⟨u, Γ', he, hv, _, _, _, hx⟩ => ⟨u, Γ', he, hv, ⟨hx.os, hx.tape, hx.output, hx.size, fun k hk => hx.keep k hk not_live_nil⟩⟩
theorem words_calls {l : List Int} (hl : l.length ≤ 1000 ∧ ∀ n ∈ l, i64P n) {w : World} (hlay : LayOk (fun k => k < w.heap.size) w) (N c : Nat) (hN : N < w.heap.size) (hcc : l.length ≤ c) (hcell : ∀ (j : Nat) n, l[j]? = some n → w.cell? ⟨N, j, none⟩ = some (.int .i64 n)) :
    Calls Tryz.prog 41 #[.slice (some ⟨N, 0, none⟩) l.length c] w fun e w' => e = .returned (.string (bs (wdS l))) ∧ Below w.heap.size w w' := by
  refine ((C41 hl).calls hlay ⟨rfl, fun j v u hv hu => ?_⟩).mono fun e w' ⟨u, Γ', he, hv, hB⟩ => ⟨by rw [he, hv.vv], hB⟩
  match j, hv, hu with
  | 0, hv, hu =>
    cases hv; cases hu
    refine .c _ _ ?_
    show RepD _ w (.sl 1 l.length fun i => r1 (l.getD i 0)) _
    refine .sl 1 l.length _ ⟨N, 0, none⟩ c (fun i _ => .int .i64 (l.getD i 0)) hcc hN (fun _ _ => rfl) (fun i j d hi hd => ?_) (fun i j d hi hd => ?_)
    · have hj : j = 0 := by
        have := (List.getElem?_eq_some_iff.1 hd).1
        simp at this; omega
      subst hj
      have := hcell i (l.getD i 0) (by rw [List.getD_eq_getElem?_getD, List.getElem?_eq_getElem hi]; rfl)
      have e : (Addr.mk N 0 none).add (i * 1 + 0) = ⟨N, i, none⟩ := by
        rw [Nat.mul_one, Nat.add_zero]
        unfold Addr.add
        split
        · rename_i h0; subst h0; rfl
        · simp
      rw [e]; exact this
    · have hj : j = 0 := by
        have := (List.getElem?_eq_some_iff.1 hd).1
        simp at this; omega
      subst hj
      cases hd
      exact .v _ rfl
  | j + 1, hv, hu => cases hv
theorem lay_below {w w' : World} (h : LayOk (fun k => k < w.heap.size) w) (hB : Below w.heap.size w w') : LayOk (fun k => k < w'.heap.size) w' := by
  obtain ⟨W0, h1, h2⟩ := h
  exact ⟨W0, h1, fun k hk => ⟨Nat.lt_of_lt_of_le (h2 k hk).1 hB.size, (hB.block k (h2 k hk).1).trans (h2 k hk).2⟩⟩
theorem bytes_bs (l : By) : strCells (bs l) = byteCells l := by rw [strCells_eq]
/-- Behind the words of the first two numbers: in the builder. -/
theorem head_calls {a b : Int} (ha : i64P a) (hb : i64P b) {w : World} (hlay : LayOk (fun k => k < w.heap.size) w) (x : Value) :
    Calls Tryz.prog 41 #[.slice (some ⟨w.heap.size + 2, 0, none⟩) 2 2] (((w.alloc (.cells #[.int .i64 a, .int .i64 b, x] 25)).alloc (.cells #[.pointer none, .slice none 0 0] 96)).alloc (.cells #[.int .i64 a, .int .i64 b] 3))
      fun e w' => e = .returned (.string (bs (wdS [a, b]))) ∧ Below (w.heap.size + 3) (((w.alloc (.cells #[.int .i64 a, .int .i64 b, x] 25)).alloc (.cells #[.pointer none, .slice none 0 0] 96)).alloc (.cells #[.int .i64 a, .int .i64 b] 3)) w' := by
  have hB : Below w.heap.size w (((w.alloc (.cells #[.int .i64 a, .int .i64 b, x] 25)).alloc (.cells #[.pointer none, .slice none 0 0] 96)).alloc (.cells #[.int .i64 a, .int .i64 b] 3)) :=
    (((Below.refl _ w).alloc (Nat.le_refl _) _).alloc (by simp) _).alloc (by simp; omega) _
  have hsz : (((w.alloc (.cells #[.int .i64 a, .int .i64 b, x] 25)).alloc (.cells #[.pointer none, .slice none 0 0] 96)).alloc (.cells #[.int .i64 a, .int .i64 b] 3)).heap.size = w.heap.size + 3 := by simp
  have h := words_calls (l := [a, b]) ⟨by simp, fun n hn => by
    simp only [List.mem_cons, List.not_mem_nil, or_false] at hn
    rcases hn with rfl | rfl <;> assumption⟩ (lay_below hlay hB) (w.heap.size + 2) 2 (by rw [hsz]; omega) (by simp) (fun j n hj => by
      have hh := heap_alloc_new' ((w.alloc (.cells #[.int .i64 a, .int .i64 b, x] 25)).alloc (.cells #[.pointer none, .slice none 0 0] 96)) (.cells #[.int .i64 a, .int .i64 b] 3)
      rw [show ((w.alloc (.cells #[.int .i64 a, .int .i64 b, x] 25)).alloc (.cells #[.pointer none, .slice none 0 0] 96)).heap.size = w.heap.size + 2 by simp] at hh
      rw [Lib.cell_of_heap hh]
      match j, hj with
      | 0, hj => cases hj; rfl
      | 1, hj => cases hj; rfl
      | j + 2, hj => simp at hj)
  rw [hsz] at h
  exact h
/-- The builder as it was laid. -/
theorem fresh_bld {a b : Int} {x : Value} {w W1 : World} (b1 : Below (w.heap.size + 3) (((w.alloc (.cells #[.int .i64 a, .int .i64 b, x] 25)).alloc (.cells #[.pointer none, .slice none 0 0] 96)).alloc (.cells #[.int .i64 a, .int .i64 b] 3)) W1) :
    IsBuilderF 96 5 w.heap.size (w.heap.size + 1) [] W1 := by
  refine .inl ⟨by omega, .slice none 0 0, ?_, World.ownsRowF_nil _ _ _ _, by simp [Value.ownBlock]⟩
  rw [b1.block (w.heap.size + 1) (by omega), heap_alloc (by simp)]
  have h := heap_alloc_new' (w.alloc (.cells #[.int .i64 a, .int .i64 b, x] 25)) (.cells #[.pointer none, .slice none 0 0] 96)
  rw [show (w.alloc (.cells #[.int .i64 a, .int .i64 b, x] 25)).heap.size = w.heap.size + 1 by simp] at h
  exact h
theorem scene_blk {a b : Int} {x : Value} {w W1 : World} (b1 : Below (w.heap.size + 3) (((w.alloc (.cells #[.int .i64 a, .int .i64 b, x] 25)).alloc (.cells #[.pointer none, .slice none 0 0] 96)).alloc (.cells #[.int .i64 a, .int .i64 b] 3)) W1) :
    W1.heap[w.heap.size]? = some (.cells #[.int .i64 a, .int .i64 b, x] 25 (0, 0)) := by
  rw [b1.block w.heap.size (by omega), heap_alloc (by simp; omega), heap_alloc (by simp)]
  exact heap_alloc_new' w _
theorem below_3 {a b : Int} {x : Value} {w W1 : World} (b1 : Below (w.heap.size + 3) (((w.alloc (.cells #[.int .i64 a, .int .i64 b, x] 25)).alloc (.cells #[.pointer none, .slice none 0 0] 96)).alloc (.cells #[.int .i64 a, .int .i64 b] 3)) W1) : Below w.heap.size w W1 := by
  have hB : Below w.heap.size w (((w.alloc (.cells #[.int .i64 a, .int .i64 b, x] 25)).alloc (.cells #[.pointer none, .slice none 0 0] 96)).alloc (.cells #[.int .i64 a, .int .i64 b] 3)) :=
    (((Below.refl _ w).alloc (Nat.le_refl _) _).alloc (by simp) _).alloc (by simp; omega) _
  exact ⟨b1.os.trans hB.os, b1.tape.trans hB.tape, b1.output.trans hB.output, Nat.le_trans hB.size b1.size, fun k hk => (b1.block k (by omega)).trans (hB.block k hk)⟩
/-- The words of a ray. -/
theorem ray_calls {x1 x2 x3 x4 x5 : Int} (h1 : i64P x1) (h2 : i64P x2) (h3 : i64P x3) (h4 : i64P x4) (h5 : i64P x5) {w : World} (hlay : LayOk (fun k => k < w.heap.size) w) (xs : Array Value) (t : TypeId) :
    Calls Tryz.prog 41 #[.slice (some ⟨w.heap.size + 1, 0, none⟩) 5 5] ((w.alloc (.cells xs t)).alloc (.cells #[.int .i64 x1, .int .i64 x2, .int .i64 x3, .int .i64 x4, .int .i64 x5] 3))
      fun e w' => e = .returned (.string (bs (wdS [x1, x2, x3, x4, x5]))) ∧ Below (w.heap.size + 2) ((w.alloc (.cells xs t)).alloc (.cells #[.int .i64 x1, .int .i64 x2, .int .i64 x3, .int .i64 x4, .int .i64 x5] 3)) w' := by
  have hB : Below w.heap.size w ((w.alloc (.cells xs t)).alloc (.cells #[.int .i64 x1, .int .i64 x2, .int .i64 x3, .int .i64 x4, .int .i64 x5] 3)) :=
    ((Below.refl _ w).alloc (Nat.le_refl _) _).alloc (by simp) _
  have hsz : ((w.alloc (.cells xs t)).alloc (.cells #[.int .i64 x1, .int .i64 x2, .int .i64 x3, .int .i64 x4, .int .i64 x5] 3)).heap.size = w.heap.size + 2 := by simp
  have h := words_calls (l := [x1, x2, x3, x4, x5]) ⟨by simp, i64_5 h1 h2 h3 h4 h5⟩ (lay_below hlay hB) (w.heap.size + 1) 5 (by rw [hsz]; omega) (by simp) (fun j n hj => by
      have hh := heap_alloc_new' (w.alloc (.cells xs t)) (.cells #[.int .i64 x1, .int .i64 x2, .int .i64 x3, .int .i64 x4, .int .i64 x5] 3)
      rw [show (w.alloc (.cells xs t)).heap.size = w.heap.size + 1 by simp] at hh
      rw [Lib.cell_of_heap hh]
      match j, hj with
      | 0, hj => cases hj; rfl
      | 1, hj => cases hj; rfl
      | 2, hj => cases hj; rfl
      | 3, hj => cases hj; rfl
      | 4, hj => cases hj; rfl
      | j + 5, hj => simp at hj)
  rw [hsz] at h
  exact h
theorem bld_keep {B b : Nat} {p : Value} {bs : List Value} {w w' : World} (h : BuilderAtF 96 5 B b p bs w) (hk : ∀ k, k < w.heap.size → w'.heap[k]? = w.heap[k]?) : BuilderAtF 96 5 B b p bs w' := by
  obtain ⟨hB, v, hb, ⟨h1, h2⟩, hne⟩ := h
  refine ⟨hB, v, (hk b (Array.getElem?_eq_some_iff.1 hb).1).trans hb, ⟨h1, ?_⟩, hne⟩
  rcases h2 with h2 | ⟨g, cap, cur, fz, q1, q2, q3, q4⟩
  · exact .inl h2
  · exact .inr ⟨g, cap, cur, fz, q1, q2, (hk g (Array.getElem?_eq_some_iff.1 q3).1).trans q3, q4⟩
theorem below_le {B B' : Nat} {w w' : World} (h : Below B w w') (hB : B' ≤ B) : Below B' w w' := ⟨h.os, h.tape, h.output, h.size, fun k hk => h.block k (Nat.lt_of_lt_of_le hk hB)⟩
theorem cell_r {I : Nat → Prop} {w wr : World} {bk o i j : Nat} {x0 : Value} (hbw : Below w.heap.size w wr) (hbk : bk < w.heap.size) (h : ∃ x, w.cell? ⟨bk, o + (i + j), none⟩ = some x ∧ RepD I w (.v x0) x) : wr.cell? ⟨bk, o + i + j, none⟩ = some x0 := by
  obtain ⟨x, hx, hd⟩ := h
  cases hd
  rw [Nat.add_assoc]
  exact (hbw.cell hbk).trans hx
theorem below_ray {xs ys : Array Value} {t u : TypeId} {w V : World} (b1 : Below (w.heap.size + 2) ((w.alloc (.cells xs t)).alloc (.cells ys u)) V) : Below w.heap.size w V := by
  have hB : Below w.heap.size w ((w.alloc (.cells xs t)).alloc (.cells ys u)) :=
    ((Below.refl _ w).alloc (Nat.le_refl _) _).alloc (by simp) _
  exact ⟨b1.os.trans hB.os, b1.tape.trans hB.tape, b1.output.trans hB.output, Nat.le_trans hB.size b1.size, fun k hk => (b1.block k (by omega)).trans (hB.block k hk)⟩
set_option maxHeartbeats 4000000 in
set_option maxRecDepth 1000000 in
theorem fmt_walk {I : Nat → Prop} {a b : Int} {l : List Ry} (hs : l.length ≤ 1000 ∧ w64S (a, b, l)) (A : Option Addr) (c : Nat) (w : World) (hlay : LayOk (fun k => k < w.heap.size) w)
    (hcell : ∀ i r, l[i]? = some r → ∃ bk o, A = some ⟨bk, o, none⟩ ∧ bk < w.heap.size ∧ ∀ j d, (r5 r)[j]? = some d → ∃ x, w.cell? ⟨bk, o + (i * 5 + j), none⟩ = some x ∧ RepD I w d x) :
    Calls Tryz.prog 10 #[.agg #[.int .i64 a, .int .i64 b, .slice A l.length c]] w fun e w' => e = .returned (.string (bs (scS (a, b, l)))) ∧ Below w.heap.size w w' := by
  go_enter Tryz.func10, Tryz.ntmps10
  go_wp2_with (go_at_call 41; refine (head_calls hs.2.1 hs.2.2.1 hlay _).mono ?_)
  rintro e W1 ⟨rfl, b1⟩
  intro b1
  have hwl := hd_len hs.2.1 hs.2.2.1
  have hsz := bs_size (wdS [a, b])
  go_wp2_with (go_at_call 43; refine (sh_Builder_WriteString_k w.heap.size (w.heap.size + 1) [] (bs (wdS [a, b])) W1 (fresh_bld b1) (by simp; omega) (below_3 b1).size).mono ?_)
  rintro e W2 ⟨rfl, h2, b2, k2⟩
  have hB2 : Below w.heap.size w W2 := (below_3 b1).trans b2
  rw [List.nil_append, bytes_bs] at h2
  have hI2 := k2 w.heap.size _ (scene_blk b1) (by intro e; injection e with e; omega) (by intro _ _ e; injection e with _ e; cases e)
  have c2 : W2.cell? ⟨w.heap.size, 2, none⟩ = some (.slice A l.length c) := by rw [Lib.cell_of_heap hI2]; rfl
  have hl1 : l.length ≤ 9223372036854775807 := by have := hs.1; omega
  clear b1 b2 k2 hI2
  go_wp2
  have h20 : scS (a, b, l.take 0) = wdS [a, b] := rfl
  go_loopw [17] (fun i wr => ∃ k : Nat, k ≤ l.length ∧ i = .int .i64 k ∧ BuilderAtF 96 5 w.heap.size (w.heap.size + 1) (.pointer (some ⟨w.heap.size + 1, 0, none⟩)) (byteCells (scS (a, b, l.take k))) wr ∧ Below w.heap.size w wr)
    (fun i _ => l.length - (RowKit.intOf i).toNat)
  case atStart => exact ⟨0, Nat.zero_le _, rfl, h20 ▸ h2, hB2⟩
  case round =>
    obtain ⟨k, hk, rfl, hbl, hbw⟩ := hrel
    by_cases hlt : k < l.length
    · obtain ⟨bk, o, rfl, hbk, hc⟩ := hcell k (l.getD k ryd) (by rw [List.getD_eq_getElem?_getD, List.getElem?_eq_getElem hlt]; rfl)
      have hi := hs.2.2.2 _ (getD_mem ryd hlt)
      have hstep := Hd.mk (sc_step (a := a) (b := b) hlt)
      have hw := lay_below hlay hbw
      obtain ⟨r, hr⟩ : ∃ r, l.getD k ryd = r := ⟨_, rfl⟩
      rw [hr] at hc hi hstep
      obtain ⟨⟨x1, x2⟩, ⟨x3, x4⟩, hb⟩ := r
      clear hr
      have w1 : wr.cell? ⟨bk, o + k * 5, none⟩ = some (.int .i64 x1) := cell_r hbw hbk (hc 0 (dI x1) rfl)
      have w2 : wr.cell? ⟨bk, o + k * 5 + 1, none⟩ = some (.int .i64 x2) := cell_r hbw hbk (hc 1 (dI x2) rfl)
      have w3 : wr.cell? ⟨bk, o + k * 5 + 2, none⟩ = some (.int .i64 x3) := cell_r hbw hbk (hc 2 (dI x3) rfl)
      have w4 : wr.cell? ⟨bk, o + k * 5 + 3, none⟩ = some (.int .i64 x4) := cell_r hbw hbk (hc 3 (dI x4) rfl)
      have w5 : wr.cell? ⟨bk, o + k * 5 + 4, none⟩ = some (.bool hb) := cell_r hbw hbk (hc 4 (.v (.bool hb)) rfl)
      clear hc
      cases hb with
      | true =>
        go_wp2_with (go_at_call 41; refine (ray_calls hi.1.1 hi.1.2 hi.2.1 hi.2.2 (by decide) hw _ _).mono ?_)
        rintro e V1 ⟨rfl, b1⟩
        intro b1
        have b2 := below_ray b1
        have hbl1 := bld_keep hbl b2.block
        have hll : (scS (a, b, l.take k)).length ≤ 200000 := by
          have := sc_len (s := (a, b, l.take k)) ⟨hs.2.1, hs.2.2.1, fun r hr => hs.2.2.2 r (List.mem_of_mem_take hr)⟩
          simp only [List.length_take] at this
          have := hs.1
          omega
        have hwl : (wdS [x1, x2, x3, x4, 1]).length ≤ 110 := ry_len (r := ((x1, x2), (x3, x4), true)) hi
        have hno : ¬ 9223372036854775807 < 1 + (wdS [x1, x2, x3, x4, 1]).length := by omega
        clear b1
        go_wp2_with (go_at_call 43; refine (sh_Builder_WriteString_k w.heap.size (w.heap.size + 1) _ _ V1 (.inr hbl1) ?_ (Nat.le_trans hbw.size b2.size)).mono ?_)
        · rw [byteCells_length]
          have h3 : ((ByteArray.mk #[59]) ++ bs (wdS [x1, x2, x3, x4, 1])).size = 1 + (wdS [x1, x2, x3, x4, 1]).length := by
            rw [show (ByteArray.mk #[59]) = bs [59] from rfl, bs_app, bs_size]; simp; omega
          rw [h3]; omega
        rintro e V2 ⟨rfl, h3, b3, k3⟩
        have hB3 := (hbw.trans (below_le b2 hbw.size)).trans b3
        have h3 : BuilderAtF 96 5 w.heap.size (w.heap.size + 1) (.pointer (some ⟨w.heap.size + 1, 0, none⟩)) (byteCells (scS (a, b, l.take (k + 1)))) V2 := by
          rw [hstep.h, byteCells_append]
          rw [show (ByteArray.mk #[59]) = bs [59] from rfl, bs_app, bytes_bs] at h3
          exact h3
        clear b2 b3 k3 hbl1
        go_wp2
        go_roundw
        case rel => exact ⟨k + 1, hlt, by go_num, h3, hB3⟩
        case measure => simp [RowKit.intOf]; omega
      | false =>
        go_wp2_with (go_at_call 41; refine (ray_calls hi.1.1 hi.1.2 hi.2.1 hi.2.2 (by decide) hw _ _).mono ?_)
        rintro e V1 ⟨rfl, b1⟩
        intro b1
        have b2 := below_ray b1
        have hbl1 := bld_keep hbl b2.block
        have hll : (scS (a, b, l.take k)).length ≤ 200000 := by
          have := sc_len (s := (a, b, l.take k)) ⟨hs.2.1, hs.2.2.1, fun r hr => hs.2.2.2 r (List.mem_of_mem_take hr)⟩
          simp only [List.length_take] at this
          have := hs.1
          omega
        have hwl : (wdS [x1, x2, x3, x4, 0]).length ≤ 110 := ry_len (r := ((x1, x2), (x3, x4), false)) hi
        have hno : ¬ 9223372036854775807 < 1 + (wdS [x1, x2, x3, x4, 0]).length := by omega
        clear b1
        go_wp2_with (go_at_call 43; refine (sh_Builder_WriteString_k w.heap.size (w.heap.size + 1) _ _ V1 (.inr hbl1) ?_ (Nat.le_trans hbw.size b2.size)).mono ?_)
        · rw [byteCells_length]
          have h3 : ((ByteArray.mk #[59]) ++ bs (wdS [x1, x2, x3, x4, 0])).size = 1 + (wdS [x1, x2, x3, x4, 0]).length := by
            rw [show (ByteArray.mk #[59]) = bs [59] from rfl, bs_app, bs_size]; simp; omega
          rw [h3]; omega
        rintro e V2 ⟨rfl, h3, b3, k3⟩
        have hB3 := (hbw.trans (below_le b2 hbw.size)).trans b3
        have h3 : BuilderAtF 96 5 w.heap.size (w.heap.size + 1) (.pointer (some ⟨w.heap.size + 1, 0, none⟩)) (byteCells (scS (a, b, l.take (k + 1)))) V2 := by
          rw [hstep.h, byteCells_append]
          rw [show (ByteArray.mk #[59]) = bs [59] from rfl, bs_app, bytes_bs] at h3
          exact h3
        clear b2 b3 k3 hbl1
        go_wp2
        go_roundw
        case rel => exact ⟨k + 1, hlt, by go_num, h3, hB3⟩
        case measure => simp [RowKit.intOf]; omega
    · have hk1 : k = l.length := by omega
      subst hk1
      rw [List.take_length] at hbl
      go_wp2_with (go_at_call 44; refine (sh_Builder_String_any_k w.heap.size (w.heap.size + 1) _ wr (.inr hbl) hbw.size).mono ?_)
      rintro e V ⟨rfl, _, b1, _⟩
      go_wp2
      go_ret
      exact ⟨rfl, hbw.trans b1⟩
theorem RepV.rays {Γ : Cx} {w : World} {l : List Ry} {u : Value} (hst : StoreOk Γ w []) (h : RepC Γ w (rys l) u) : ∃ A c, u = .slice A l.length c ∧
    ∀ i r, l[i]? = some r → ∃ bk o, A = some ⟨bk, o, none⟩ ∧ bk < w.heap.size ∧ ∀ j d, (r5 r)[j]? = some d → ∃ x, w.cell? ⟨bk, o + (i * 5 + j), none⟩ = some x ∧ RepD Γ.I w d x := by
  replace h : RepD Γ.I w (.sl 5 l.length fun i => r5 (l.getD i ryd)) u := h
  generalize hn : l.length = n at h
  cases h with
  | slE _ _ A c =>
    refine ⟨A, c, rfl, fun i r hr => ?_⟩
    rw [List.length_eq_zero_iff.1 hn] at hr
    simp at hr
  | sl _ _ _ ad c U hnc hI hs hc hr =>
    refine ⟨some ad, c, rfl, fun i r hx => ?_⟩
    have hi : i < n := by rw [← hn]; exact (List.getElem?_eq_some_iff.1 hx).1
    have e : l.getD i ryd = r := by rw [List.getD, hx]; rfl
    have key : ∀ j d, (r5 r)[j]? = some d → w.cell? (ad.add (i * 5 + j)) = some (U i j) ∧ RepD Γ.I w d (U i j) := fun j d hd => by
      have hd' : (r5 (l.getD i ryd))[j]? = some d := by rw [e]; exact hd
      exact ⟨hc i j d hi hd', hr i j d hi hd'⟩
    obtain ⟨bk, o, sp⟩ := ad
    have h0 : w.cell? ((Addr.mk bk o sp).add 0) = some (U 0 0) := hc 0 0 (dI (l.getD 0 ryd).1.1) (by omega) rfl
    have hsp : sp = none := by
      cases sp with
      | none => rfl
      | some q =>
        simp only [World.cell?, Addr.add] at h0
        split at h0
        · simp at h0
        · cases h0
    subst hsp
    refine ⟨bk, o, rfl, hst.im bk hI, fun j d hd => ⟨U i j, ?_, (key j d hd).2⟩⟩
    have e2 : (Addr.mk bk o none).add (i * 5 + j) = ⟨bk, o + (i * 5 + j), none⟩ := by
      unfold Addr.add
      split
      · rename_i h0; rw [h0]; rfl
      · rfl
    rw [← e2]; exact (key j d hd).1
theorem C10 {s : Sc} : (s.2.2.length ≤ 1000 ∧ w64S s) → PFD Tryz.prog 10 [scv s] (sv (scS s)) := fun hs => by
  obtain ⟨a, b, l⟩ := s
  refine pfd_below Tryz.call10 fun Γ w us hst hr => ?_
  obtain ⟨u, rfl, hu⟩ := hr.one
  cases hu with
  | agg _ us hl h =>
    obtain ⟨us⟩ := us
    match us, hl with
    | [u0, u1, u2], _ =>
      have q0 := h 0 _ u0 rfl rfl
      have q1 := h 1 _ u1 rfl rfl
      obtain ⟨A, c, rfl, hcell⟩ := RepV.rays hst (h 2 _ u2 rfl rfl)
      cases q0; cases q1
      have hlay : LayOk (fun k => k < w.heap.size) w := by
        obtain ⟨W0, h1, h2⟩ := hst.lay
        exact ⟨W0, h1, fun k hk => ⟨hst.im k (h2 k hk).1, (h2 k hk).2⟩⟩
      refine (fmt_walk hs A c w hlay hcell).mono ?_
      rintro e w' ⟨rfl, hB⟩
      exact ⟨_, rfl, hB, RepV.dv rfl⟩
end Go.Pw

set_option linter.unusedSimpArgs false
set_option linter.unusedVariables false
set_option maxHeartbeats 1000000
namespace Go.Pw
open Go.RowKit Go.Lib
set_option maxRecDepth 2000
open Go Go.Proofs A1 A2 A3 A4
theorem dec_len3 {u : Nat} (h : u ≤ 999) : (decDigits u).length ≤ 3 := by
  by_cases h1 : u < 10
  · rw [decDigits_one h1]; simp
  · rw [dec_big h1, List.length_append]
    by_cases h2 : u / 10 < 10
    · rw [decDigits_one h2]; simp
    · rw [dec_big h2, List.length_append]
      rw [decDigits_one (by omega)]; simp
theorem ntV_itoa {n : Int} (h0 : 0 ≤ n) (h1 : n ≤ 999) : ntV (itoa n) = some n := by
  have h : numV (itoa n) 3 = some n := (numV_iff (by decide)).2 ⟨rfl, by have := dec_len3 (u := n.natAbs) (by omega); omega⟩
  unfold ntV; rw [h]; simp [h0]
theorem ntL_wd : ∀ {l : List Int}, (∀ n ∈ l, 0 ≤ n ∧ n ≤ 999) → ntL (wdL l) = some l
  | [], _ => rfl
  | x :: l, h => by
    have hx := h x (by simp)
    have ih := ntL_wd (l := l) (fun n hn => h n (List.mem_cons_of_mem _ hn))
    show ntL (itoa x :: wdL l) = _
    rw [ntL, ntV_itoa hx.1 hx.2, ih]
theorem no32 (n : Int) : (32 : UInt8) ∉ itoa n := itoa_no (by decide)
theorem no59 (n : Int) : (59 : UInt8) ∉ itoa n := itoa_no (by decide)
theorem cut_wd {l : List Int} (h : l ≠ []) : cutG 32 [] (wdS l) = wdL l := cut_jn (by simpa using h) (fun x hx => by
  obtain ⟨n, _, rfl⟩ := List.mem_map.1 hx
  exact no32 n)
theorem ntN_wd {l : List Int} (h : ∀ n ∈ l, 0 ≤ n ∧ n ≤ 999) (hne : l ≠ []) {m : Int} (hm : (l.length : Int) = m) : ntN (wdS l) m = some l :=
  ntN_of (by rw [cut_wd hne]; exact ntL_wd h) (by rw [cut_wd hne, List.length_map]; exact hm)
theorem jn_no {c d : UInt8} (hcd : c ≠ d) : ∀ {l : List By}, (∀ x ∈ l, d ∉ x) → d ∉ jnG c l
  | [], _ => by simp [jnG]
  | [x], h => h x (by simp)
  | x :: y :: r, h => by
    rw [jn_cons (by simp), List.mem_append, List.mem_cons]
    intro hh
    rcases hh with h1 | h1 | h1
    · exact h x (by simp) h1
    · exact hcd h1.symm
    · exact jn_no hcd (fun z hz => h z (List.mem_cons_of_mem _ hz)) h1
theorem wd_no59 (l : List Int) : (59 : UInt8) ∉ wdS l := jn_no (by decide) (fun x hx => by
  obtain ⟨n, _, rfl⟩ := List.mem_map.1 hx
  exact no59 n)
theorem alL_map {α : Type} {f : By → Option α} {g : α → By} : ∀ {l : List α}, (∀ x ∈ l, f (g x) = some x) → alL f (l.map g) = some l
  | [], _ => rfl
  | x :: l, h => by
    rw [List.map_cons, alL, h x (by simp), alL_map (fun y hy => h y (List.mem_cons_of_mem _ hy))]
theorem ryP_W {r : Ry} {w g : Int} (hw : w ≤ 12) (hg : g ≤ 12) (h : ryOk r w g) : ryP (ryW r) = some r := by
  obtain ⟨⟨a, b⟩, ⟨c, d⟩, e⟩ := r
  obtain ⟨⟨h1, h2⟩, h3, h4⟩ := h
  simp only at h1 h2 h3 h4
  have hb : 0 ≤ b01 e ∧ b01 e ≤ 1 := by cases e <;> decide
  have hn : ntN (ryW ((a, b), (c, d), e)) 5 = some [a, b, c, d, b01 e] := ntN_wd (fun n hn => by
    simp only [List.mem_cons, List.not_mem_nil, or_false] at hn
    rcases hn with rfl | rfl | rfl | rfl | rfl <;> omega) (by simp) rfl
  unfold ryP; rw [hn]
  simp only [hb.2, if_true]
  cases e <;> rfl
theorem psE_S {s : Sc} (h : (scE s).2 = 0) : psE (scS s) = (s, 0) := by
  obtain ⟨w, g, l⟩ := s
  obtain ⟨hg, hr⟩ := scE_ok.1 h
  have hg := gridE_ok.1 hg
  simp only at hg hr
  have hc : cutG 59 [] (scS (w, g, l)) = wdS [w, g] :: l.map ryW := cut_jn (by simp) (fun x hx => by
    rcases List.mem_cons.1 hx with h1 | h1
    · subst h1; exact wd_no59 _
    · obtain ⟨d, _, rfl⟩ := List.mem_map.1 h1
      exact wd_no59 _)
  have hh : hdP (wdS [w, g]) = some (w, g) := by
    have hn : ntN (wdS [w, g]) 2 = some [w, g] := ntN_wd (fun n hn => by
      simp only [List.mem_cons, List.not_mem_nil, or_false] at hn
      rcases hn with rfl | rfl <;> omega) (by simp) rfl
    unfold hdP; rw [hn]
  rw [psE_of hc, psV_y hh (alL_map fun r hr' => ryP_W (by omega) (by omega) (hr r hr')), if_pos h]
end Go.Pw

set_option linter.unusedSimpArgs false
set_option linter.unusedVariables false
namespace Go.Pw
set_option maxRecDepth 2000
open Go Go.Proofs A1 A2 A3 A4
end Go.Pw

set_option linter.unusedSimpArgs false
set_option linter.unusedVariables false
set_option maxHeartbeats 4000000
namespace Go.Pw
set_option maxRecDepth 2000
open Go Go.Proofs A1 A2 A3 A4
end Go.Pw

set_option linter.unusedSimpArgs false
set_option linter.unusedVariables false
set_option maxHeartbeats 1000000
namespace Go.Pw
open Go.RowKit Go.Lib
set_option maxRecDepth 2000
open Go Go.Proofs A1 A2 A3 A4
end Go.Pw

set_option linter.unusedSimpArgs false
set_option linter.unusedVariables false
set_option maxHeartbeats 2000000
namespace Go.Pw
open Go.RowKit Go.Lib
set_option maxRecDepth 2000
open Go Go.Proofs A1 A2 A3 A4
theorem C22 : PFD Tryz.prog 22 [] (vbl true) := by
  have c1 := C30 (l := exD) (by decide)
  have c5 := C29 (s := exS) (by decide)
  rw [show shR exD = ((9, [0, 5, 0]), 0) by decide +kernel] at c1
  rw [show (scE exS).2 = 0 by decide +kernel, if_pos rfl, show (bestK (odC exS) exS.2.2.length (2 ^ exS.2.2.length)).l = [0] by decide +kernel] at c5
  have c7 := C39 (a := (9, [0, 5, 0])) (b := (9, [0, 5, 0])) (by decide)
  have c10 := C40 (l := [0]) (m := [0]) (by decide)
  rw [decide_eq_true rfl] at c7 c10
  refine pi1 fn22 ?_
  (repeat' first | (refine Owe.same ?_; first | refine Owe.o ?_ | refine Owe.mk ?_ ?_) | (refine Fork.same ?_; (first | refine fkY ?_ | refine fkF ?_ | ((first | refine fkD ?_ ?_ | refine fkN ?_ ?_ | refine fkM ?_ ?_) <;> intro h))) | ((first | refine OpsL.same ?_ | refine OpsDL.same ?_); first | refine pK C31 rfl rfl ?_ | refine pK C36 rfl rfl ?_ | refine pK c1 rfl rfl ?_ | refine pK c5 rfl rfl ?_ | refine pK c7 rfl rfl ?_) | refine MvQ.stay ?_)
  ((first | refine OpsL.same ?_ | refine OpsDL.same ?_); first | refine pK c10 rfl rfl ?_)
  (repeat' first | (refine Owe.same ?_; first | refine Owe.o ?_ | refine Owe.mk ?_ ?_) | (refine Fork.same ?_; (first | refine fkY ?_ | refine fkF ?_ | ((first | refine fkD ?_ ?_ | refine fkN ?_ ?_ | refine fkM ?_ ?_) <;> intro h))) | ((first | refine OpsL.same ?_ | refine OpsDL.same ?_); first | refine pK c7 rfl rfl ?_) | refine MvQ.stay ?_)
  (refine rqK rfl ?_; (repeat' first | exact rfl | (refine qS ?_; constructor)))
theorem ceq_app1 {l : List Ry} {x : Ry} : CEq (.d (.sl 5 (l.length + 1) fun i => if i < l.length then r5 (l.getD i ryd) else ([r5 x] : List (List D)).getD (i - l.length) [])) (rys (l ++ [x])) := by
  have hl : (l ++ [x]).length = l.length + 1 := by simp
  rw [show rys (l ++ [x]) = .d (.sl 5 (l ++ [x]).length fun i => r5 ((l ++ [x]).getD i ryd)) from rfl, hl]
  refine .d _ _ (.sl _ _ _ _ fun i hi => ?_)
  split
  · rename_i h
    rw [List.getD_eq_getElem?_getD, List.getD_eq_getElem?_getD, List.getElem?_append_left h]
  · rename_i h
    have : i = l.length := by omega
    subst this
    rw [Nat.sub_self, List.getD_eq_getElem?_getD, List.getD_eq_getElem?_getD, List.getElem?_append_right (Nat.le_refl _), Nat.sub_self]
    rfl
theorem ceq_pre {l : List Ry} {x : Ry} {n : Nat} (hn : n = l.length) : CEq (.d (.sl 5 n fun i => if i < l.length then r5 (l.getD i ryd) else ([r5 x] : List (List D)).getD (i - l.length) [])) (rys l) := by
  subst hn
  exact .d _ _ (.sl _ _ _ _ fun i hi => if_pos hi)
theorem w64S_of {w g : Int} {l : List Ry} (hw : 1 ≤ w ∧ w ≤ 12) (hg : 1 ≤ g ∧ g ≤ 12) (h : ∀ r ∈ l, ryOk r w g) : w64S (w, g, l) := by
  refine ⟨⟨by simp only; omega, by simp only; omega⟩, ⟨by simp only; omega, by simp only; omega⟩, fun r hr => ?_⟩
  obtain ⟨⟨⟨a1, a2⟩, a3, a4⟩, ⟨a5, a6⟩, a7, a8⟩ := h r hr
  exact ⟨⟨⟨by omega, by omega⟩, by omega, by omega⟩, ⟨by omega, by omega⟩, by omega, by omega⟩
theorem C4 {w g : Int} {so : List Bool} {x : Ry} {a b : List Ry} : PFD Tryz.prog 4 [wrv w g so x, .c (rys a), .c (rys b)] (vbl true) := by
  have c23w := C23 (n := w) (lo := 1) (hi := 5)
  have c23g := C23 (n := g) (lo := 1) (hi := 5)
  by_cases hw : 1 ≤ w ∧ w ≤ 5
  rotate_left
  · rw [decide_eq_false hw] at c23w
    refine pi1 fn4 ?_
    (repeat' first | (refine Owe.same ?_; first | refine Owe.o ?_ | refine Owe.mk ?_ ?_) | (refine Fork.same ?_; (first | refine fkY ?_ | refine fkF ?_ | ((first | refine fkD ?_ ?_ | refine fkN ?_ ?_ | refine fkM ?_ ?_) <;> intro h))) | ((first | refine OpsL.same ?_ | refine OpsDL.same ?_); first | refine oK C22 rfl rfl rfl ?_ | refine oK c23w rfl rfl rfl ?_) | refine MvQ.stay ?_)
    (refine rqK rfl ?_; (repeat' first | exact rfl | (refine qS ?_; constructor)))
  rw [decide_eq_true hw] at c23w
  by_cases hg : 1 ≤ g ∧ g ≤ 5
  rotate_left
  · rw [decide_eq_false hg] at c23g
    refine pi1 fn4 ?_
    (repeat' first | (refine Owe.same ?_; first | refine Owe.o ?_ | refine Owe.mk ?_ ?_) | (refine Fork.same ?_; (first | refine fkY ?_ | refine fkF ?_ | ((first | refine fkD ?_ ?_ | refine fkN ?_ ?_ | refine fkM ?_ ?_) <;> intro h))) | ((first | refine OpsL.same ?_ | refine OpsDL.same ?_); first | refine oK C22 rfl rfl rfl ?_ | refine oK c23w rfl rfl rfl ?_ | refine oK c23g rfl rfl rfl ?_) | refine MvQ.stay ?_)
    (refine rqK rfl ?_; (repeat' first | exact rfl | (refine qS ?_; constructor)))
  rw [decide_eq_true hg] at c23g
  have hm : w * g ≤ 5 * 5 := Int.mul_le_mul hw.2 hg.2 (by omega) (by decide)
  have hm0 : 0 ≤ w * g := Int.mul_nonneg (by omega) (by omega)
  by_cases hso : (so.length : Int) = w * g
  rotate_left
  · refine pi1 fn4 ?_
    (repeat' first | (refine Owe.same ?_; first | refine Owe.o ?_ | refine Owe.mk ?_ ?_) | (refine Fork.same ?_; (first | refine fkY ?_ | refine fkF ?_ | ((first | refine fkD ?_ ?_ | refine fkN ?_ ?_ | refine fkM ?_ ?_) <;> intro h))) | ((first | refine OpsL.same ?_ | refine OpsDL.same ?_); first | refine oK C22 rfl rfl rfl ?_ | refine oK c23w rfl rfl rfl ?_ | refine oK c23g rfl rfl rfl ?_) | refine MvQ.stay ?_)
    (refine rqK rfl ?_; (repeat' first | exact rfl | (refine qS ?_; constructor)))
  by_cases hl : a.length ≤ 4 ∧ b.length ≤ 4
  rotate_left
  · refine pi1 fn4 ?_
    (repeat' first | (refine Owe.same ?_; first | refine Owe.o ?_ | refine Owe.mk ?_ ?_) | (refine Fork.same ?_; (first | refine fkY ?_ | refine fkF ?_ | ((first | refine fkD ?_ ?_ | refine fkN ?_ ?_ | refine fkM ?_ ?_) <;> intro h))) | ((first | refine OpsL.same ?_ | refine OpsDL.same ?_); first | refine oK C22 rfl rfl rfl ?_ | refine oK c23w rfl rfl rfl ?_ | refine oK c23g rfl rfl rfl ?_) | refine MvQ.stay ?_)
    all_goals first | ((refine rqK rfl ?_; (repeat' first | exact rfl | (refine qS ?_; constructor))); done) | (exfalso; omega)
  have hn1 := scnL_len (w := w) (g := g) (so := so) (l := a)
  have hn2 := scnL_len (w := w) (g := g) (so := so) (l := b)
  have hA : ∀ r ∈ scnL w g so a, ryOk r w g ∧ hon r w so = true := fun r h => scnL_in h
  have hB : ∀ r ∈ scnL w g so b, ryOk r w g ∧ hon r w so = true := fun r h => scnL_in h
  have c24a := C24 (w := w) (g := g) (so := so) (x := x) (l := a) ⟨⟨by omega, by omega⟩, hso, by omega⟩
  have c24b := C24 (w := w) (g := g) (so := so) (x := x) (l := b) ⟨⟨by omega, by omega⟩, hso, by omega⟩
  generalize scnL w g so a = A at *
  generalize scnL w g so b = B at *
  have hM : ∀ r ∈ A ++ B, ryOk r w g ∧ hon r w so = true := fun r h => (List.mem_append.1 h).elim (hA r) (hB r)
  have hMl : (A ++ B).length = A.length + B.length := List.length_append
  have tA := true_S (by omega) hso (fun r h => (hA r h).1) (fun r h => (hA r h).2)
  have tM := true_S (by omega) hso (fun r h => (hM r h).1) (fun r h => (hM r h).2)
  have eA := scE_0 (w := w) (g := g) (l := A) (by omega) (by omega) (by omega) (fun r h => (hA r h).1)
  have eB := scE_0 (w := w) (g := g) (l := B) (by omega) (by omega) (by omega) (fun r h => (hB r h).1)
  have eM := scE_0 (w := w) (g := g) (l := A ++ B) (by omega) (by omega) (by omega) (fun r h => (hM r h).1)
  have c11a := C11 (s := (w, g, A)) (by simp only; omega)
  have c11b := C11 (s := (w, g, B)) (by simp only; omega)
  have w6 := w64S_of (w := w) (g := g) (l := A) (by omega) (by omega) (fun r h => (hA r h).1)
  have c10 := C10 (s := (w, g, A)) ⟨by simp only; omega, w6⟩
  have k2 := sc_len w6
  have c13 := C13 (s := scS (w, g, A)) (by simp only at k2; omega)
  rw [psE_S eA] at c13
  generalize scS (w, g, A) = SA at *
  have c19 := C19 (a := (w, g, A)) (b := (w, g, A)) (by simp only; omega)
  rw [decide_eq_true rfl] at c19
  have c25 := C25 (a := (w, g, A)) (b := (w, g, B)) ⟨by simp only; omega, by simp only; omega⟩
  have em : meE (w, g, A) (w, g, B) = 0 := by
    rw [meE, eA, eB, fst_z, fst_z, unl_eq, if_pos ⟨rfl, rfl⟩, fst_z, unl_eq, if_pos (by simp only; omega), fst_z]; rfl
  rw [meR, if_pos em] at c25
  simp only at c25
  have c21 := C21 (s := (w, g, A ++ B))
  rw [eM] at c21
  have c26a := C26 (x := x) (by omega) (by omega) hso (by omega) eA tA
  have c26m := C26 (x := x) (by omega) (by omega) hso (by omega) eM tM
  have c27 := C27 (r := x) (w := w) (g := g) ⟨by omega, by omega⟩
  have n3 := tM.no3
  clear eA eB eM em tA tM w6 k2 hA hB c23w c23g
  have hM : ∀ r ∈ A ++ B, ryOk r w g := fun r h => (hM r h).1
  generalize A ++ B = M at *
  have c23w := C23 (n := w) (lo := 1) (hi := 5)
  have c23g := C23 (n := g) (lo := 1) (hi := 5)
  rw [decide_eq_true hw] at c23w
  rw [decide_eq_true hg] at c23g
  have head : ∀ (K : St → Prop), True := fun _ => trivial
  refine pi1 fn4 ?_
  (repeat' first | (refine Owe.same ?_; first | refine Owe.o ?_ | refine Owe.mk ?_ ?_) | (refine Fork.same ?_; (first | refine fkY ?_ | refine fkF ?_ | ((first | refine fkD ?_ ?_ | refine fkN ?_ ?_ | refine fkM ?_ ?_) <;> intro h))) | ((first | refine OpsL.same ?_ | refine OpsDL.same ?_); first | refine oK C22 rfl rfl rfl ?_ | refine oK c23w rfl rfl rfl ?_ | refine oK c23g rfl rfl rfl ?_ | refine oK c24a rfl rfl rfl ?_ | refine oK c24b rfl rfl rfl ?_ | refine oK c11a rfl rfl rfl ?_ | refine oK c11b rfl rfl rfl ?_ | refine oK c10 rfl rfl rfl ?_ | refine oK c13 rfl rfl rfl ?_ | refine oK c19 rfl rfl rfl ?_ | refine oK c25 rfl rfl rfl ?_ | refine oK c21 rfl rfl rfl ?_) | refine MvQ.stay ?_)
  refine Sat.lp (fun t : Nat => ⟨[(14, vi .i64 t), (13, .c (.bp 0 0)), (11, .c (.bp 1 0)), (3, .c (.rp (wrD w g so x)))], [(0, .box [int w, int g, rys A, int w, int g, rys M]), (1, .box [int w, int g, rys M])], 2⟩)
    (fun t => t ≤ 2) (fun t => 2 - t) 0 [17, 14] (Nat.zero_le _) ?_ ?_
  · (refine qis ?_ ?_ <;> (repeat' first | exact rfl | (refine qS ?_; constructor)))
  intro t ht
  rcases (show t = 0 ∨ t = 1 ∨ t = 2 by omega) with rfl | rfl | rfl
  · refine Fork.dec (fun hlt => ?_) (fun hlt => absurd (show ((0 : Nat) : Int) < 2 by decide) hlt)
    (repeat' first | (refine Owe.same ?_; first | refine Owe.o ?_ | refine Owe.mk ?_ ?_) | (refine Fork.same ?_; (first | refine fkY ?_ | refine fkF ?_ | ((first | refine fkD ?_ ?_ | refine fkN ?_ ?_ | refine fkM ?_ ?_) <;> intro h))) | ((first | refine OpsL.same ?_ | refine OpsDL.same ?_); first | refine oK c26a rfl rfl rfl ?_) | refine MvQ.stay ?_)
    refine again 1 [0, 1] (by decide) (by decide) ?_
    (refine qis ?_ ?_ <;> (repeat' first | exact rfl | (refine qS ?_; constructor)))
  · refine Fork.dec (fun hlt => ?_) (fun hlt => absurd (show ((1 : Nat) : Int) < 2 by decide) hlt)
    (repeat' first | (refine Owe.same ?_; first | refine Owe.o ?_ | refine Owe.mk ?_ ?_) | (refine Fork.same ?_; (first | refine fkY ?_ | refine fkF ?_ | ((first | refine fkD ?_ ?_ | refine fkN ?_ ?_ | refine fkM ?_ ?_) <;> intro h))) | ((first | refine OpsL.same ?_ | refine OpsDL.same ?_); first | refine oK c26m rfl rfl rfl ?_) | refine MvQ.stay ?_)
    refine again 2 [0, 1] (by decide) (by decide) ?_
    (refine qis ?_ ?_ <;> (repeat' first | exact rfl | (refine qS ?_; constructor)))
  refine Fork.dec (fun hlt => absurd hlt (show ¬ ((2 : Nat) : Int) < 2 by decide)) (fun hlt => ?_)
  by_cases hx : ryOk x w g
  rotate_left
  · rw [unl_eq, if_neg hx] at c27
    (repeat' first | (refine Owe.same ?_; first | refine Owe.o ?_ | refine Owe.mk ?_ ?_) | (refine Fork.same ?_; (first | refine fkY ?_ | refine fkF ?_ | ((first | refine fkD ?_ ?_ | refine fkN ?_ ?_ | refine fkM ?_ ?_) <;> intro h))) | ((first | refine OpsL.same ?_ | refine OpsDL.same ?_); first | refine oK c27 rfl rfl rfl ?_) | refine MvQ.stay ?_)
    (refine rqK rfl ?_; (repeat' first | exact rfl | (refine qS ?_; constructor)))
  rw [unl_eq, if_pos hx] at c27
  have c28 := C28 (so := so) ⟨⟨hx, by omega, by omega⟩, hso⟩
  cases hh : hon x w so
  rotate_left
  · rw [hh] at c28
    (repeat' first | (refine Owe.same ?_; first | refine Owe.o ?_ | refine Owe.mk ?_ ?_) | (refine Fork.same ?_; (first | refine fkY ?_ | refine fkF ?_ | ((first | refine fkD ?_ ?_ | refine fkN ?_ ?_ | refine fkM ?_ ?_) <;> intro h))) | ((first | refine OpsL.same ?_ | refine OpsDL.same ?_); first | refine oK c27 rfl rfl rfl ?_ | refine oK c28 rfl rfl rfl ?_) | refine MvQ.stay ?_)
    (refine rqK rfl ?_; (repeat' first | exact rfl | (refine qS ?_; constructor)))
  rw [hh] at c28
  rcases Nat.eq_zero_or_pos M.length with hz | hz
  · have hz : M = [] := List.eq_nil_of_length_eq_zero hz
    subst hz
    (repeat' first | (refine Owe.same ?_; first | refine Owe.o ?_ | refine Owe.mk ?_ ?_) | (refine Fork.same ?_; (first | refine fkY ?_ | refine fkF ?_ | ((first | refine fkD ?_ ?_ | refine fkN ?_ ?_ | refine fkM ?_ ?_) <;> intro h))) | ((first | refine OpsL.same ?_ | refine OpsDL.same ?_); first | refine oK c27 rfl rfl rfl ?_ | refine oK c28 rfl rfl rfl ?_) | refine MvQ.stay ?_)
    refine OpsL.as 118 (.agg [int w, int g, .d (.sl 0 0 fun _ => [])]) ?_ ?_
    · ((first | refine qen ?_ | refine qvs ?_ | refine qeq ?_ | refine qst ?_ | refine qv ?_ | refine qc ?_ | refine qe ?_ | refine qcs ?_ | skip); (repeat' first | exact rfl | (refine qS ?_; constructor)))
      exact .d _ _ (.e ..)
    refine Ops.cs rfl rfl (CallS.of fn11u rfl ?_)
    (repeat' first | (refine Owe.same ?_; first | refine Owe.o ?_ | refine Owe.mk ?_ ?_) | (refine Fork.same ?_; (first | refine fkD ?_ ?_ | refine fkN ?_ ?_ | refine fkM ?_ ?_) <;> intro h) | refine MvQ.stay ?_)
    refine OpsL.frzA 128 2 13 rfl rfl rfl (Nat.le_refl _) ?_
    refine OpsL.as 128 (scv (w, g, [x])) ?_ ?_
    · ((first | refine qen ?_ | refine qvs ?_ | refine qeq ?_ | refine qst ?_ | refine qv ?_ | refine qc ?_ | refine qe ?_ | refine qcs ?_ | skip); (repeat' first | exact rfl | (refine qS ?_; constructor)))
    have c11x := C11 (s := (w, g, [x])) (by simp)
    have c29 := C29 (s := (w, g, [x])) (by simp)
    have ex := scE_0 (w := w) (g := g) (l := [x]) (by omega) (by omega) (by simp) (fun r h => by rw [List.mem_singleton.1 h]; exact hx)
    rw [ex, if_pos rfl] at c29
    have ho := odd_one (x := x) n3
    simp only [List.nil_append] at c29 ho
    generalize (bestK (odC (w, g, [x])) [x].length (2 ^ [x].length)).l = O at *
    (repeat' first | (refine Owe.same ?_; first | refine Owe.o ?_ | refine Owe.mk ?_ ?_) | (refine Fork.same ?_; (first | refine fkY ?_ | refine fkF ?_ | ((first | refine fkD ?_ ?_ | refine fkN ?_ ?_ | refine fkM ?_ ?_) <;> intro h))) | ((first | refine OpsL.same ?_ | refine OpsDL.same ?_); first | refine oK c11x rfl rfl rfl ?_ | refine oK c29 rfl rfl rfl ?_) | refine MvQ.stay ?_)
    · (repeat' first | (refine Owe.same ?_; first | refine Owe.o ?_ | refine Owe.mk ?_ ?_) | (refine Fork.same ?_; (first | refine fkD ?_ ?_ | refine fkN ?_ ?_ | refine fkM ?_ ?_) <;> intro h) | refine MvQ.stay ?_)
      (refine rqK rfl ?_; (repeat' first | exact rfl | (refine qS ?_; constructor)))
    · (repeat' first | (refine Owe.same ?_; first | refine Owe.o ?_ | refine Owe.mk ?_ ?_) | (refine Fork.same ?_; (first | refine fkD ?_ ?_ | refine fkN ?_ ?_ | refine fkM ?_ ?_) <;> intro h) | refine MvQ.stay ?_)
      (refine rqK rfl ?_; (repeat' first | exact rfl | (refine qS ?_; constructor)))
    refine OpsL.frz 154 13 rfl rfl (Nat.le_refl _) ?_
    refine OpsL.go ?_
    (repeat' first | (refine Owe.same ?_; first | refine Owe.o ?_ | refine Owe.mk ?_ ?_) | (refine Fork.same ?_; (first | refine fkD ?_ ?_ | refine fkN ?_ ?_ | refine fkM ?_ ?_) <;> intro h) | refine MvQ.stay ?_)
    refine OpsL.as 162 (scv (w, g, [])) ?_ ?_
    · ((first | refine qen ?_ | refine qvs ?_ | refine qeq ?_ | refine qst ?_ | refine qv ?_ | refine qc ?_ | refine qe ?_ | refine qcs ?_ | skip); (repeat' first | exact rfl | (refine qS ?_; constructor)))
      exact .d _ _ (.e 5 5 _ _)
    (repeat' first | (refine Owe.same ?_; first | refine Owe.o ?_ | refine Owe.mk ?_ ?_) | (refine Fork.same ?_; (first | refine fkY ?_ | refine fkF ?_ | ((first | refine fkD ?_ ?_ | refine fkN ?_ ?_ | refine fkM ?_ ?_) <;> intro h))) | ((first | refine OpsL.same ?_ | refine OpsDL.same ?_); first | refine oK c26m rfl rfl rfl ?_) | refine MvQ.stay ?_)
    (refine rqK rfl ?_; (repeat' first | exact rfl | (refine qS ?_; constructor)))
  (repeat' first | (refine Owe.same ?_; first | refine Owe.o ?_ | refine Owe.mk ?_ ?_) | (refine Fork.same ?_; (first | refine fkY ?_ | refine fkF ?_ | ((first | refine fkD ?_ ?_ | refine fkN ?_ ?_ | refine fkM ?_ ?_) <;> intro h))) | ((first | refine OpsL.same ?_ | refine OpsDL.same ?_); first | refine oK c27 rfl rfl rfl ?_ | refine oK c28 rfl rfl rfl ?_) | refine MvQ.stay ?_)
  refine Ops.cs rfl rfl (CallS.of fn11u rfl ?_)
  (repeat' first | (refine Owe.same ?_; first | refine Owe.o ?_ | refine Owe.mk ?_ ?_) | (refine Fork.same ?_; (first | refine fkD ?_ ?_ | refine fkN ?_ ?_ | refine fkM ?_ ?_) <;> intro h) | refine MvQ.stay ?_)
  refine OpsL.frzA 128 2 13 rfl rfl rfl (Nat.le_refl _) ?_
  refine OpsL.as 128 (scv (w, g, M ++ [x])) ?_ ?_
  · ((first | refine qen ?_ | refine qvs ?_ | refine qeq ?_ | refine qst ?_ | refine qv ?_ | refine qc ?_ | refine qe ?_ | refine qcs ?_ | skip); (repeat' first | exact rfl | (refine qS ?_; constructor)))
    exact ceq_app1
  have c11x := C11 (s := (w, g, M ++ [x])) (by simp only [List.length_append, List.length_singleton]; omega)
  have c29 := C29 (s := (w, g, M ++ [x])) (by simp only [List.length_append, List.length_singleton]; omega)
  have ex := scE_0 (w := w) (g := g) (l := M ++ [x]) (by omega) (by omega) (by simp only [List.length_append, List.length_singleton]; omega) (fun r h => (List.mem_append.1 h).elim (hM r) fun h => by rw [List.mem_singleton.1 h]; exact hx)
  rw [ex, if_pos rfl] at c29
  have ho := odd_one (x := x) n3
  simp only at c29
  generalize (bestK (odC (w, g, M ++ [x])) (M ++ [x]).length (2 ^ (M ++ [x]).length)).l = O at *
  (repeat' first | (refine Owe.same ?_; first | refine Owe.o ?_ | refine Owe.mk ?_ ?_) | (refine Fork.same ?_; (first | refine fkY ?_ | refine fkF ?_ | ((first | refine fkD ?_ ?_ | refine fkN ?_ ?_ | refine fkM ?_ ?_) <;> intro h))) | ((first | refine OpsL.same ?_ | refine OpsDL.same ?_); first | refine oK c11x rfl rfl rfl ?_ | refine oK c29 rfl rfl rfl ?_) | refine MvQ.stay ?_)
  · (repeat' first | (refine Owe.same ?_; first | refine Owe.o ?_ | refine Owe.mk ?_ ?_) | (refine Fork.same ?_; (first | refine fkD ?_ ?_ | refine fkN ?_ ?_ | refine fkM ?_ ?_) <;> intro h) | refine MvQ.stay ?_)
    (refine rqK rfl ?_; (repeat' first | exact rfl | (refine qS ?_; constructor)))
  · (repeat' first | (refine Owe.same ?_; first | refine Owe.o ?_ | refine Owe.mk ?_ ?_) | (refine Fork.same ?_; (first | refine fkD ?_ ?_ | refine fkN ?_ ?_ | refine fkM ?_ ?_) <;> intro h) | refine MvQ.stay ?_)
    (refine rqK rfl ?_; (repeat' first | exact rfl | (refine qS ?_; constructor)))
  refine OpsL.frz 154 13 rfl rfl (Nat.le_refl _) ?_
  refine OpsL.go ?_
  (repeat' first | (refine Owe.same ?_; first | refine Owe.o ?_ | refine Owe.mk ?_ ?_) | (refine Fork.same ?_; (first | refine fkD ?_ ?_ | refine fkN ?_ ?_ | refine fkM ?_ ?_) <;> intro h) | refine MvQ.stay ?_)
  refine OpsL.as 162 (scv (w, g, M)) ?_ ?_
  · ((first | refine qen ?_ | refine qvs ?_ | refine qeq ?_ | refine qst ?_ | refine qv ?_ | refine qc ?_ | refine qe ?_ | refine qcs ?_ | skip); (repeat' first | exact rfl | (refine qS ?_; constructor)))
    exact ceq_pre (by simp)
  (repeat' first | (refine Owe.same ?_; first | refine Owe.o ?_ | refine Owe.mk ?_ ?_) | (refine Fork.same ?_; (first | refine fkY ?_ | refine fkF ?_ | ((first | refine fkD ?_ ?_ | refine fkN ?_ ?_ | refine fkM ?_ ?_) <;> intro h))) | ((first | refine OpsL.same ?_ | refine OpsDL.same ?_); first | refine oK c26m rfl rfl rfl ?_) | refine MvQ.stay ?_)
  (refine rqK rfl ?_; (repeat' first | exact rfl | (refine qS ?_; constructor)))
end Go.Pw

set_option linter.unusedVariables false
namespace Go.Proofs.YtggcobcogdhfhaaGreatDoor
open Go.ChangeShapes Go.WideShapes Go.ChangeAt Go.RowKit Go.Pw
abbrev laids : List (String × DataW Unit) := Rows.sonarStringsRow.laid
theorem var_at {W : World} {name : String} {g : Nat} {cs : Array Value} (hg : Tryz.prog.globalNamed name = some g) (hv : World.var? Tryz.prog W name = some cs) : ∃ t fr, W.heap[g]? = some (.cells cs t fr) := by
  unfold World.var? at hv
  rw [hg, Option.bind_some] at hv
  split at hv
  · rename_i cs' t fr h
    cases hv
    exact ⟨t, fr, h⟩
  · cases hv
set_option maxRecDepth 100000 in
theorem ifc_at {W : World} {name : String} {g : Nat} {cs : Array Value} {fuel : Nat} {d : DataW Unit} {p : List MemPlace} {b : Nat} {sp : Nat → Bool} {hd : Bool} {enc : TypeId × Value → Unit} (hg : Tryz.prog.globalNamed name = some g) (hv : World.var? Tryz.prog W name = some cs)
    (h : DataW.trod enc Tryz.prog W b sp hd fuel 98 cs.toList = some (d, p)) : ifcW W g := by
  obtain ⟨t, fr, hh⟩ := var_at hg hv
  cases fuel with
  | zero => simp [DataW.trod] at h
  | succ fuel =>
    have hu := Tryz.underlying98
    generalize #[("Error", 101)] = ms at hu
    obtain ⟨l⟩ := cs
    simp only [DataW.trod, hu] at h
    split at h
    all_goals first
      | (have q := (by assumption : some (TypeDesc.interface ms) = some _); injection q with q; cases q; done)
      | (cases h; done)
      | exact ⟨.nilIface, by rw [Lib.cell_of_heap hh]; rfl, .inl rfl⟩
      | exact ⟨_, by rw [Lib.cell_of_heap hh]; rfl, .inr ⟨_, _, rfl⟩⟩
set_option maxRecDepth 100000 in
/-- What the listed variables hold. -/
theorem of_laid {W : World} (h : laidMetH Tryz.prog laids W) : LaidW W := by
  rw [MakeChecks.laidMetH_plain _ _ _ (by kernel_rfl)] at h
  obtain ⟨ps, ⟨g0, t0, cs0, f0, p0, q0, hg0, ht0, hv0, hd0, ⟨g1, t1, cs1, f1, p1, q1, hg1, ht1, hv1, hd1, ⟨g2, t2, cs2, f2, p2, q2, hg2, ht2, hv2, hd2, ⟨g3, t3, cs3, f3, p3, q3, hg3, ht3, hv3, hd3, ⟨g4, t4, cs4, f4, p4, q4, hg4, ht4, hv4, hd4, ⟨g5, t5, cs5, f5, p5, q5, hg5, ht5, hv5, hd5, _⟩, _⟩, _⟩, _⟩, _⟩, _⟩, _⟩ := h
  have e2 : g2 = 5 := Option.some.inj (hg2.symm.trans sh_laysM171.m17)
  have e4 : g4 = 4 := Option.some.inj (hg4.symm.trans sh_laysC172.m16)
  have e5 : g5 = 3 := Option.some.inj (hg5.symm.trans sh_laysC172.m15)
  subst e2; subst e4; subst e5
  have k2 : t2 = 244 := Option.some.inj (ht2.symm.trans (by kernel_rfl))
  have k4 : t4 = 98 := Option.some.inj (ht4.symm.trans (by kernel_rfl))
  have k5 : t5 = 98 := Option.some.inj (ht5.symm.trans (by kernel_rfl))
  subst k2; subst k4; subst k5
  refine ⟨?_, ifc_at hg5 hv5 hd5, ifc_at hg4 hv4 hd4⟩
  obtain ⟨t, fr, hh⟩ := var_at hg2 hv2
  have hcs := Lib.cells_of_tab (k := .u64) (zs := Lib.pow10Tab) Tryz.underlying244 Tryz.underlying225 (by kernel_rfl) (by kernel_rfl) hd2
  refine ⟨t, fr, ?_⟩
  rw [hh]
  obtain ⟨l⟩ := cs2
  simp only at hcs
  rw [hcs]
end Go.Proofs.YtggcobcogdhfhaaGreatDoor

namespace Go.Proofs.YtggcobcogdhfhaaGreatDoor
open Go.ChangeShapes Go.WideShapes Go.ChangeAt Go.RowKit Go.Pw
theorem Tryz.own : ownKnob Tryz.prog.godebug = none := by kernel_rfl
theorem Tryz.laidOut : laidOutB Tryz.prog = true := by kernel_rfl
theorem shapes : shAll Tryz.prog [53, 23, 23] = some [(true, [.int .i64, .int .i64, .sl [.bool], .int .i64, .int .i64, .int .i64, .int .i64, .bool]), (false, [.sl [.int .i64, .int .i64, .int .i64, .int .i64, .bool]]), (false, [.sl [.int .i64, .int .i64, .int .i64, .int .i64, .bool]])] := by kernel_rfl
theorem law (args : List V) (h : ArgOk [(true, [.int .i64, .int .i64, .sl [.bool], .int .i64, .int .i64, .int .i64, .int .i64, .bool]), (false, [.sl [.int .i64, .int .i64, .int .i64, .int .i64, .bool]]), (false, [.sl [.int .i64, .int .i64, .int .i64, .int .i64, .bool]])] args) : PFD Tryz.prog 4 args (vbl true) := by
  match args, h with
  | [v0, v1, v2], ⟨h0, h1, h2, _⟩ =>
    obtain ⟨w0, g0, s0, x0, r0⟩ := arg_world h0
    obtain ⟨l1, r1, q1⟩ := arg_rys h1
    obtain ⟨l2, r2, q2⟩ := arg_rys h2
    exact PFD.ri C4 (.cons r0 (.cons r1 (.cons r2 .nil)))
set_option maxRecDepth 100000 in
theorem lifted (os : Os) (started : os.Started) (H : Type) (enc : TypeId × Value → H) :
    ReturnsInHanded {} Tryz.checked os 4 .any (fun w args => (Rows.topSonarSeenSpec.pre enc Tryz.prog Tryz.f4 Rows.topSonarSeenRow.domain false w args ∧ laidMetH Tryz.prog Rows.topSonarSeenRow.laid w) ∧ sizedMet enc Tryz.prog Tryz.f4 (OpenSpec.ofChange Rows.topSonarSeenSpec) false w args)
      (Rows.topSonarSeenSpec.post enc Tryz.prog Tryz.f4 false true false false) := by
  refine returnsInHanded_of_change_and (C := Tryz.checked) (X := fun w _ => laidMetH Tryz.prog Rows.topSonarSeenRow.laid w) (fun _ _ _ hh h => h.of_heap hh) Tryz.own started (by kernel_rfl) Tryz.func4
    (ChangeSpec.witness_shaped (enc := enc) (C := Tryz.checked) (os := os) (X := fun w _ => laidMetH Tryz.prog Rows.topSonarSeenRow.laid w) false (World.laidAll Tryz.prog os Rows.topSonarSeenRow.laid) #[.agg #[.int .i64 0, .int .i64 0, .slice none 0 0, .int .i64 0, .int .i64 0, .int .i64 0, .int .i64 0, .bool false], .slice none 0 0, .slice none 0 0] 8 (World.laidAll_os _ _ _)
      (World.shaped_of_ZipB (by kernel_rfl) (by kernel_rfl)) (by kernel_rfl) (by kernel_rfl) (by kernel_rfl)
      (by rw [MakeChecks.laidMetH_plain _ _ _ (by kernel_rfl)]; exact laidMet_laidAll _ (by kernel_rfl) (by kernel_rfl))) ?_
  intro W base args ds gs before hval0 hW _ _ hL _
  exact law_calls (P := Tryz.prog) (F := Tryz.f4) (tb := 4) Tryz.laidOut (by rw [Tryz.params4]; exact shapes) rfl (fun ds hl => by
    rw [Tryz.params4] at hl
    match ds, hl with
    | [d0, d1, d2], _ => rfl) (by kernel_rfl) Tryz.underlying4 law W base args ds gs before (of_laid hL) hval0 hW
theorem row_said : Rows.TopSonarSeenSaid :=
  OpenClaim.holds_of_wide 4 Tryz.f4 rfl rfl rfl rfl rfl rfl rfl ⟨rfl, rfl, rfl, rfl, rfl⟩ rfl rfl rfl rfl rfl (by kernel_rfl) Tryz.func4 (by kernel_rfl)
    (of_decide_eq_true (by kernel_rfl)) (by unfold Func.isWrapper; rw [if_neg (by decide +kernel)]; exact ⟨rfl, rfl⟩)
    (fun os started H enc _ => lifted os started H enc)
theorem row_holds : Rows.TopSonarSeenCardSaid :=
  Claim7.holds_tied_plain_at .later [] [.data, .data, .data, .data, .sentinel, .sentinel, .pinned] true (true, "9aab5aad1b66f51c842d1983beae4b516ca64e198cf37c568b2a43f08e44bb6e") true row_said (fun _ h => by cases h) (by kernel_rfl) (fun _ h => by cases h) topSonarSeen_row_tie rfl ⟨rfl, rfl⟩ (by kernel_rfl) rfl
    (fun f fn hf hfn => by
      obtain rfl : f = 4 := Option.some.inj ((show Tryz.prog.funcNamed "moonpool/moonpooltop.TopSonarSeen" = some 4 by kernel_rfl).symm.trans hf) |>.symm
      obtain rfl : fn = Tryz.f4 := (Option.some.inj (Tryz.func4.symm.trans hfn)).symm
      exact ⟨by kernel_rfl, fun j t ht => by
        rw [Tryz.params4] at ht
        have hm : t ∈ [53, 23, 23] := by simpa using Array.mem_of_getElem? ht
        have hall : ([53, 23, 23].all fun u => !Tryz.prog.wantsStandIn u) = true := by kernel_rfl
        exact (show Tryz.prog.wantsStandIn t = false by simpa using List.all_eq_true.1 hall t hm)⟩)
    (by kernel_rfl)
end Go.Proofs.YtggcobcogdhfhaaGreatDoor
