/- Proved here at the end: the row named in the last theorem, on no condition. -/
import Derived.Test.YtbgikbenhglmkaaGreatSonarShortestD
import Derived.Test.YtbgikbenhglmkaaGreatProg
import Derived.Test.YtbgikbenhglmkaaGreatRows
set_option linter.unusedSimpArgs false
set_option linter.unusedVariables false
namespace Go.Pw
set_option maxRecDepth 2000
open Go Go.Proofs A1 A2 A3 A4
/-- A pair that blinds each other. -/
abbrev bpB (l : List Dv) (st : List Int) (i k : Nat) (c : Int) : Bool := dist (l.getD i (0, 0, 0)) (l.getD k (0, 0, 0)) && mtB (l.getD i (0, 0, 0)) (l.getD k (0, 0, 0)) (st.getD i 0) (st.getD k 0) c
/-- A device that is placed blinds none before it. -/
def freB (l : List Dv) (st : List Int) (k : Nat) (s c : Int) : Bool := (List.range k).all fun i => !(dist (l.getD i (0, 0, 0)) (l.getD k (0, 0, 0)) && mtB (l.getD i (0, 0, 0)) (l.getD k (0, 0, 0)) (st.getD i 0) s c)
/-- The first starts that begin with some, as the document looks for them: so many starts from one on. -/
def tryG (g : Nat → Option (List Int)) : Nat → Nat → Option (List Int)
  | 0, _ => none
  | r + 1, n => match g n with
    | none => tryG g r (n + 1)
    | some o => some o
def grS (l : List Dv) (c : Nat) : Nat → List Int → Option (List Int)
  | 0, st => some st
  | f + 1, st => tryG (fun n => if freB l st st.length n c = true then grS l c f (st ++ [(n : Int)]) else none) c 0
theorem tryG_some {g : Nat → Option (List Int)} {o : List Int} : ∀ {r n : Nat}, tryG g r n = some o → ∃ m, n ≤ m ∧ m < n + r ∧ g m = some o ∧ ∀ j, n ≤ j → j < m → g j = none
  | 0, n, h => by cases h
  | r + 1, n, h => by
    rw [tryG] at h
    split at h
    · rename_i hn
      obtain ⟨m, h1, h2, h3, h4⟩ := tryG_some h
      refine ⟨m, by omega, by omega, h3, fun j hj1 hj2 => ?_⟩
      rcases Nat.lt_or_eq_of_le hj1 with h5 | rfl
      · exact h4 j h5 hj2
      · exact hn
    · rename_i q hq
      cases h
      exact ⟨n, Nat.le_refl _, by omega, hq, fun j h1 h2 => absurd h1 (by omega)⟩
theorem tryG_none {g : Nat → Option (List Int)} : ∀ {r n : Nat}, tryG g r n = none ↔ ∀ m, n ≤ m → m < n + r → g m = none
  | 0, n => ⟨fun _ m h1 h2 => absurd h2 (by omega), fun _ => rfl⟩
  | r + 1, n => by
    rw [tryG]
    split
    · rename_i hn
      rw [tryG_none]
      constructor
      · intro h m h1 h2
        rcases Nat.lt_or_eq_of_le h1 with h5 | rfl
        · exact h m (by omega) (by omega)
        · exact hn
      · intro h m h1 h2; exact h m (by omega) (by omega)
    · rename_i q hq
      constructor
      · intro h; cases h
      · intro h; rw [h n (Nat.le_refl _) (by omega)] at hq; cases hq
/-- The meeting of windows says nothing but how far apart they begin. -/
theorem mtB_shift {a b : Dv} {s t c n : Int} (hc : 0 < c) : mtB a b ((s - n) % c) ((t - n) % c) c = mtB a b s t c := by
  have e : ((t - n) % c - (s - n) % c + c) % c = (t - s + c) % c := by
    rw [Int.add_emod_right, Int.add_emod_right, ← Int.sub_emod]
    congr 1; omega
  rw [mtB, mtB, e]
theorem getD_app {st : List Int} {a : Int} {i : Nat} : (st ++ [a]).getD i 0 = if i < st.length then st.getD i 0 else if i = st.length then a else 0 := by
  simp only [List.getD_eq_getElem?_getD]
  split
  · rename_i h; rw [List.getElem?_append_left h]
  · rename_i h
    rw [List.getElem?_append_right (by omega)]
    split
    · rename_i h2; subst h2; simp
    · rename_i h2
      rw [List.getElem?_eq_none (by simp; omega)]; rfl
theorem fre_iff {l : List Dv} {st o : List Int} {k : Nat} {s c : Int} (hp : ∀ i, i < k → o.getD i 0 = st.getD i 0) (hk : o.getD k 0 = s) : freB l st k s c = true ↔ ∀ i, i < k → bpB l o i k c = false := by
  rw [freB, List.all_eq_true]
  constructor
  · intro h i hi
    have := h i (List.mem_range.2 hi)
    rw [bpB, hp i hi, hk]
    simpa only [Bool.not_eq_true'] using this
  · intro h i hi
    have hi := List.mem_range.1 hi
    have := h i hi
    rw [bpB, hp i hi, hk] at this
    rw [this]; rfl
theorem grS_sound {l : List Dv} {c : Nat} : ∀ {f : Nat} {st o : List Int}, grS l c f st = some o → o.length = st.length + f ∧ (∀ i, i < st.length → o.getD i 0 = st.getD i 0) ∧ (stOk st c → stOk o c) ∧ ∀ k, st.length ≤ k → k < o.length → ∀ i, i < k → bpB l o i k c = false
  | 0, st, o, h => by
    rw [grS] at h; cases h
    exact ⟨rfl, fun _ _ => rfl, fun h => h, fun k h1 h2 => absurd h1 (by omega)⟩
  | f + 1, st, o, h => by
    rw [grS] at h
    obtain ⟨m, _, hm, hg, _⟩ := tryG_some h
    split at hg
    · rename_i hf
      obtain ⟨h1, h2, h3, h4⟩ := grS_sound hg
      rw [List.length_append, List.length_singleton] at h1 h2 h4
      have hpre : ∀ i, i < st.length → o.getD i 0 = st.getD i 0 := fun i hi => by
        rw [h2 i (by omega), getD_app, if_pos hi]
      have hat : o.getD st.length 0 = m := by
        rw [h2 st.length (by omega), getD_app, if_neg (by omega), if_pos rfl]
      refine ⟨by omega, hpre, fun h => h3 (stOk_app h ⟨by omega, by omega⟩), fun k hk1 hk2 => ?_⟩
      rcases Nat.lt_or_eq_of_le hk1 with h5 | rfl
      · exact h4 k (by omega) hk2
      · exact (fre_iff hpre hat).1 hf
    · cases hg
theorem grS_none {l : List Dv} {c : Nat} : ∀ {f : Nat} {st : List Int}, grS l c f st = none → ∀ o : List Int, o.length = st.length + f → (∀ i, i < st.length → o.getD i 0 = st.getD i 0) → stOk o c → (∀ k, st.length ≤ k → k < o.length → ∀ i, i < k → bpB l o i k c = false) → False
  | 0, st, h, _, _, _, _, _ => by rw [grS] at h; cases h
  | f + 1, st, h, o, h1, h2, h3, h4 => by
    rw [grS] at h
    have hk : st.length < o.length := by omega
    have hb := h3 st.length hk
    have hm := tryG_none.1 h (o.getD st.length 0).toNat (Nat.zero_le _) (by omega)
    have hat : o.getD st.length 0 = (((o.getD st.length 0).toNat : Nat) : Int) := by omega
    rw [if_pos ((fre_iff h2 hat).2 (h4 st.length (Nat.le_refl _) hk))] at hm
    refine grS_none hm o (by rw [List.length_append, List.length_singleton]; omega) (fun i hi => ?_) h3 (fun k hk1 hk2 => ?_)
    · rw [List.length_append, List.length_singleton] at hi
      rw [getD_app]
      split
      · rename_i h5; exact h2 i h5
      · have : i = st.length := by omega
        subst this
        rw [if_pos rfl]; exact hat
    · rw [List.length_append, List.length_singleton] at hk1
      exact h4 k (by omega) hk2
/-- No starts with one first: none with another. -/
theorem grS_turn {l : List Dv} {c f : Nat} (hc : 0 < c) (h : grS l c f [0] = none) (n : Nat) (hn : n < c) : grS l c f [(n : Int)] = none := by
  cases hg : grS l c f [(n : Int)] with
  | none => rfl
  | some o =>
    exfalso
    obtain ⟨h1, h2, h3, h4⟩ := grS_sound hg
    have hst : stOk [(n : Int)] c := fun i hi => by
      have : i = 0 := by simp at hi; omega
      subst this; show 0 ≤ (n : Int) ∧ (n : Int) < c; omega
    have ho := h3 hst
    have h0 : o.getD 0 0 = n := h2 0 (by simp)
    have hl : (o.map fun s => (s - n) % (c : Int)).length = o.length := List.length_map ..
    have hg2 : ∀ i, i < o.length → (o.map fun s => (s - n) % (c : Int)).getD i 0 = (o.getD i 0 - n) % (c : Int) := fun i hi => by
      rw [List.getD_eq_getElem?_getD, List.getElem?_map, List.getElem?_eq_getElem hi, List.getD_eq_getElem?_getD, List.getElem?_eq_getElem hi]; rfl
    simp only [List.length_singleton] at h1 h4
    refine grS_none h (o.map fun s => (s - n) % (c : Int)) (by rw [hl]; exact h1) (fun i hi => ?_) (fun i hi => ?_) (fun k hk1 hk2 i hi => ?_)
    · have : i = 0 := by simp at hi; omega
      subst this
      rw [hg2 0 (by omega), h0, Int.sub_self]; rfl
    · rw [hl] at hi
      rw [hg2 i hi]
      exact ⟨Int.emod_nonneg _ (by omega), Int.emod_lt_of_pos _ (by omega)⟩
    · rw [hl] at hk2
      have := h4 k hk1 hk2 i hi
      rw [bpB, hg2 i (by omega), hg2 k hk2, mtB_shift (by omega)]
      exact this
/-- A device that blinds itself. -/
abbrev itB (l : List Dv) (c : Int) (k : Nat) : Bool := decide (c < win (l.getD k (0, 0, 0)))
theorem blk_eq {l : List Dv} {st : List Int} {n : Nat} {c : Int} : blk l (st ++ [(n : Int)]) c (st.length + 1) = (!(freB l st st.length n c) || itB l c st.length) := by
  have hl : (st ++ [(n : Int)]).length - 1 = st.length := by simp
  have hat : (st ++ [(n : Int)]).getD st.length 0 = n := by rw [getD_app, if_neg (by omega), if_pos rfl]
  have hpre : ∀ i, i < st.length → (st ++ [(n : Int)]).getD i 0 = st.getD i 0 := fun i hi => by rw [getD_app, if_pos hi]
  rw [blk_succ, hl, blB_ii]
  congr 1
  rw [blk, hl, Bool.eq_iff_iff, Bool.not_eq_true', List.any_eq_true]
  constructor
  · rintro ⟨i, hi, h⟩
    have hi := List.mem_range.1 hi
    rw [Bool.eq_false_iff]
    intro hf
    have := (fre_iff hpre hat).1 hf i hi
    rw [blB_ik hi] at h
    exact Bool.noConfusion (this.symm.trans h)
  · intro h
    rw [Bool.eq_false_iff, ne_eq, fre_iff hpre hat] at h
    refine Classical.byContradiction fun hno => h fun i hi => ?_
    rw [Bool.eq_false_iff]
    intro hb
    exact hno ⟨i, List.mem_range.2 hi, by rw [blB_ik hi]; exact hb⟩
theorem try_eq {g : Nat → Option (Option (List Int))} {h : Nat → Option (List Int)} (he : ∀ n, g n = (h n).map some) : ∀ r n, tryL g r n = tryG h r n
  | 0, _ => rfl
  | r + 1, n => by
    rw [tryL, tryG, he n]
    cases h n with
    | none => exact try_eq he r (n + 1)
    | some o => rfl
theorem plS_eq {l : List Dv} {c : Nat} (hi : ∀ k, k < l.length → itB l c k = false) : ∀ {f : Nat} {st : List Int}, 0 < st.length → st.length + f = l.length → plS l c f st = grS l c f st
  | 0, _, _, _ => rfl
  | f + 1, st, h0, hf => by
    rw [plS_succ, grS]
    refine try_eq (fun n => ?_) c 0
    rw [plG, blk_eq, hi st.length (by omega), Bool.or_false, plS_eq hi (f := f) (st := st ++ [(n : Int)]) (by simp) (by simp; omega)]
    cases freB l st st.length n c with
    | false => rfl
    | true =>
      rw [if_neg (by decide), if_pos rfl]
      cases grS l c f (st ++ [(n : Int)]) with
      | none => rw [if_neg (by omega)]; rfl
      | some o => rfl
theorem plS_it {l : List Dv} {c : Nat} : ∀ {f : Nat} {st o : List Int}, plS l c f st = some o → ∀ k, st.length ≤ k → k < st.length + f → itB l c k = false
  | 0, st, o, _, k, h1, h2 => absurd h1 (by omega)
  | f + 1, st, o, h, k, h1, h2 => by
    rw [plS_succ] at h
    refine tryL_pos (P := fun _ => itB l c k = false) (fun n o hn => ?_) _ _ _ h
    rw [plG, blk_eq] at hn
    split at hn
    · cases hn
    · rename_i hb
      split at hn
      · rename_i o' ho
        rcases Nat.lt_or_eq_of_le h1 with h5 | rfl
        · exact plS_it ho k (by simp; omega) (by simp; omega)
        · cases hq : itB l c st.length with
          | false => rfl
          | true => rw [hq, Bool.or_true] at hb; exact absurd rfl hb
      · split at hn <;> cases hn
/-- The first turns as the document has them. -/
def frR (l : List Dv) (c : Nat) : Option (List Int) := if (List.range l.length).any (itB l c) = true then none else grS l c l.length []
theorem plS_all {l : List Dv} {c : Nat} (hc : 0 < c) (hl : 0 < l.length) : plS l c l.length [] = frR l c := by
  rw [frR]
  split
  · rename_i h
    obtain ⟨k, hk, h⟩ := List.any_eq_true.1 h
    have hk := List.mem_range.1 hk
    cases hp : plS l c l.length [] with
    | none => rfl
    | some o =>
      have := plS_it hp k (Nat.zero_le _) (by simpa using hk)
      rw [h] at this; cases this
  · rename_i h
    have hi : ∀ k, k < l.length → itB l c k = false := fun k hk => by
      rw [Bool.eq_false_iff]; intro hb; exact h (List.any_eq_true.2 ⟨k, List.mem_range.2 hk, hb⟩)
    clear h
    obtain ⟨f, hf⟩ : ∃ f, l.length = f + 1 := ⟨l.length - 1, by omega⟩
    rcases c with _ | c
    · exact absurd hc (by decide)
    have hfr : ∀ n : Nat, freB l [] ([] : List Int).length n ((c + 1 : Nat) : Int) = true := fun n => rfl
    have hi0 : itB l ((c + 1 : Nat) : Int) ([] : List Int).length = false := hi 0 hl
    have h0 : plG l (c + 1) f [] 0 = match grS l (c + 1) f [((0 : Nat) : Int)] with | some o => some (some o) | none => some none := by
      have hb := blk_eq (l := l) (st := []) (n := 0) (c := ((c + 1 : Nat) : Int))
      rw [hfr, hi0] at hb
      rw [plG, hb, if_neg (by decide), plS_eq hi (by simp) (by simp; omega)]
      rfl
    rw [hf, plS_succ, grS, tryL, h0]
    cases hz : grS l (c + 1) f [((0 : Nat) : Int)] with
    | some o =>
      rw [tryG]
      show some o = match (if freB l [] ([] : List Int).length ((0 : Nat) : Int) ((c + 1 : Nat) : Int) = true then grS l (c + 1) f [((0 : Nat) : Int)] else none) with | none => _ | some o => some o
      rw [hfr, if_pos rfl, hz]
    | none =>
      refine (tryG_none.2 fun m _ hm => ?_).symm
      rw [hfr, if_pos rfl]
      exact grS_turn hc hz m (by omega)
end Go.Pw

set_option linter.unusedVariables false
set_option maxHeartbeats 2000000
set_option maxRecDepth 100000
namespace Go.Pw
open Go Go.Proofs
end Go.Pw

set_option linter.unusedSimpArgs false
set_option linter.unusedVariables false
namespace Go.Pw
set_option maxRecDepth 2000
open Go Go.Proofs A1 A2 A3 A4
end Go.Pw

set_option linter.unusedSimpArgs false
set_option linter.unusedVariables false
namespace Go.Pw
set_option maxRecDepth 2000
open Go Go.Proofs A1 A2 A3 A4
theorem cmpI_lt0 {a b : Int} : cmpI a b < 0 ↔ a < b := by rw [cmpI]; split <;> (try split) <;> omega
theorem cmpI_z0 {a b : Int} : cmpI a b = 0 ↔ a = b := by rw [cmpI]; split <;> (try split) <;> omega
theorem C34 {l m : List Int} : (l.length ≤ 1000000 ∧ m.length ≤ 1000000) → PFD Tryz.prog 34 [.c (ints l), .c (ints m)] (vbl (decide (cmpL l m < 0))) := fun ⟨hl, hm⟩ => by
  refine pi1 fn34 ?_
  (repeat' first | (refine Owe.same ?_; first | refine Owe.o ?_ | refine Owe.mk ?_ ?_) | (refine Fork.same ?_; (first | refine fkD ?_ ?_ | refine fkN ?_ ?_ | refine fkM ?_ ?_) <;> intro h) | refine MvQ.stay ?_)
  refine Sat.lp0 (fun k : Nat => [(5, vi .i64 k), (0, .c (ints l)), (1, .c (ints m))]) (fun k => (k ≤ l.length ∧ k ≤ m.length) ∧ cmpL l m = cmpL (l.drop k) (m.drop k)) (fun k => l.length - k) 0 ⟨⟨Nat.zero_le _, Nat.zero_le _⟩, rfl⟩ (by ((first | refine qen ?_ | refine qvs ?_ | refine qeq ?_ | refine qst ?_ | refine qv ?_ | refine qc ?_ | refine qe ?_ | refine qcs ?_ | skip); (repeat' first | exact rfl | (refine qS ?_; constructor)))) ?_
  intro k hk
  have hend : k = l.length ∨ k = m.length → (cmpL l m < 0 ↔ l.length < m.length) := fun h => by
    rw [hk.2]
    rcases Nat.lt_or_ge k m.length with h1 | h1
    · have hkl : k = l.length := by omega
      rw [List.drop_of_length_le (l := l) (by omega), List.drop_eq_getElem_cons h1, cmpL]
      exact ⟨fun _ => by omega, fun _ => by decide⟩
    · rw [List.drop_of_length_le (l := m) (by omega)]
      rcases Nat.lt_or_ge k l.length with h2 | h2
      · rw [List.drop_eq_getElem_cons h2, cmpL]
        exact ⟨fun hh => absurd hh (by decide), fun _ => by omega⟩
      · rw [List.drop_of_length_le (l := l) (by omega), cmpL]
        exact ⟨fun hh => absurd hh (by decide), fun _ => by omega⟩
  have hin : k < l.length → k < m.length → cmpL l m = if cmpI (l.getD k 0) (m.getD k 0) = 0 then cmpL (l.drop (k + 1)) (m.drop (k + 1)) else cmpI (l.getD k 0) (m.getD k 0) := fun h1 h2 => by rw [hk.2, cmpL_drop l m k h1 h2]
  (repeat' first | (refine Owe.same ?_; first | refine Owe.o ?_ | refine Owe.mk ?_ ?_) | (refine Fork.same ?_; (first | refine fkD ?_ ?_ | refine fkN ?_ ?_ | refine fkM ?_ ?_) <;> intro h) | refine MvQ.stay ?_)
  · simp only [Int.toNat_natCast] at h
    have e := hin (by omega) (by omega)
    rw [if_neg fun hh => h (cmpI_z0.1 hh)] at e
    rw [e]
    (refine rqK rfl ?_; (repeat' first | exact rfl | (refine qS ?_; constructor)))
    rw [decide_eq_decide]; exact cmpI_lt0.symm
  · simp only [Int.toNat_natCast] at h
    have e := hin (by omega) (by omega)
    rw [if_pos (cmpI_z0.2 h)] at e
    exact again0 (k + 1) ⟨by omega, e⟩ (by omega) (by ((first | refine qen ?_ | refine qvs ?_ | refine qeq ?_ | refine qst ?_ | refine qv ?_ | refine qc ?_ | refine qe ?_ | refine qcs ?_ | skip); (repeat' first | exact rfl | (refine qS ?_; constructor))))
  · have e := hend (by omega)
    (refine rqK rfl ?_; (repeat' first | exact rfl | (refine qS ?_; constructor)))
    rw [decide_eq_decide, e]; omega
  · have e := hend (by omega)
    (refine rqK rfl ?_; (repeat' first | exact rfl | (refine qS ?_; constructor)))
    rw [decide_eq_decide, e]; omega
end Go.Pw

set_option linter.unusedSimpArgs false
set_option linter.unusedVariables false
set_option maxHeartbeats 1000000
namespace Go.Pw
set_option maxRecDepth 2000
open Go Go.Proofs A1 A2 A3 A4
theorem fst3_lt {a b c : Int} : fstE [a, b, c] < 0 ↔ a < 0 ∨ a = 0 ∧ (b < 0 ∨ b = 0 ∧ c < 0) := by
  simp only [fstE]
  split
  · split
    · split <;> omega
    · omega
  · omega
end Go.Pw

set_option linter.unusedSimpArgs false
set_option linter.unusedVariables false
namespace Go.Pw
set_option maxRecDepth 2000
open Go Go.Proofs A1 A2 A3 A4
end Go.Pw

set_option linter.unusedSimpArgs false
set_option linter.unusedVariables false
set_option maxHeartbeats 1000000
namespace Go.Pw
set_option maxRecDepth 2000
open Go Go.Proofs A1 A2 A3 A4
end Go.Pw

set_option linter.unusedSimpArgs false
set_option linter.unusedVariables false
namespace Go.Pw
set_option maxRecDepth 2000
open Go Go.Proofs A1 A2 A3 A4
/-- A sum of so many. -/
def smF (f : Nat → Int) : Nat → Int
  | 0 => 0
  | n + 1 => smF f n + f n
theorem smF_congr {f g : Nat → Int} : ∀ {n : Nat}, (∀ i, i < n → f i = g i) → smF f n = smF g n
  | 0, _ => rfl
  | n + 1, h => by rw [smF, smF, smF_congr fun i hi => h i (by omega), h n (by omega)]
end Go.Pw

set_option linter.unusedSimpArgs false
set_option linter.unusedVariables false
set_option maxHeartbeats 1000000
namespace Go.Pw
set_option maxRecDepth 2000
open Go Go.Proofs A1 A2 A3 A4
end Go.Pw

set_option linter.unusedSimpArgs false
set_option linter.unusedVariables false
set_option maxHeartbeats 4000000
namespace Go.Pw
set_option maxRecDepth 2000
open Go Go.Proofs A1 A2 A3 A4
end Go.Pw

set_option linter.unusedSimpArgs false
set_option linter.unusedVariables false
namespace Go.Pw
set_option maxRecDepth 2000
open Go Go.Proofs A1 A2 A3 A4
theorem smF_add {f g : Nat → Int} : ∀ n, smF (fun i => f i + g i) n = smF f n + smF g n
  | 0 => rfl
  | n + 1 => by simp only [smF, smF_add n]; omega
theorem all_congr {f g : Nat → Bool} {n : Nat} (h : ∀ i, i < n → f i = g i) : (List.range n).all f = (List.range n).all g := by
  rw [Bool.eq_iff_iff, List.all_eq_true, List.all_eq_true]
  exact ⟨fun hh i hi => by rw [← h i (List.mem_range.1 hi)]; exact hh i hi, fun hh i hi => by rw [h i (List.mem_range.1 hi)]; exact hh i hi⟩
end Go.Pw

set_option linter.unusedSimpArgs false
set_option linter.unusedVariables false
namespace Go.Pw
set_option maxRecDepth 2000
open Go Go.Proofs A1 A2 A3 A4
theorem smF_swap {f : Nat → Nat → Int} {m : Nat} : ∀ n, smF (fun u => smF (fun j => f u j) m) n = smF (fun j => smF (fun u => f u j) n) m
  | 0 => by
    have : ∀ m, smF (fun j => smF (fun u => f u j) 0) m = 0 := fun m => by
      induction m with
      | zero => rfl
      | succ m ih => rw [smF, ih]; rfl
    rw [this]; rfl
  | n + 1 => by
    rw [smF, smF_swap n]
    simp only [smF]
    rw [smF_add]
theorem smF_one_le {f : Nat → Int} : ∀ {n : Nat}, (∀ i, i < n → f i ≤ 1) → smF f n ≤ n
  | 0, _ => Int.le_refl _
  | n + 1, h => by
    have := smF_one_le (n := n) fun i hi => h i (by omega)
    have := h n (by omega)
    simp only [smF]; omega
/-- At most one is one. -/
theorem smF_uniq {f : Nat → Int} : ∀ {n : Nat}, (∀ i, i < n → f i = 0 ∨ f i = 1) → (∀ i j, i < j → j < n → f i = 1 → f j = 1 → False) → smF f n ≤ 1
  | 0, _, _ => by rw [smF]; decide
  | n + 1, h, hu => by
    have ih := smF_uniq (n := n) (fun i hi => h i (by omega)) (fun i j hij hj => hu i j hij (by omega))
    simp only [smF]
    rcases h n (by omega) with h0 | h1
    · omega
    · have hz : smF f n = 0 := by
        have : ∀ m, m ≤ n → smF f m = 0 := fun m => by
          induction m with
          | zero => intro _; rfl
          | succ m ihm =>
            intro hm
            rw [smF, ihm (by omega)]
            rcases h m (by omega) with h2 | h2
            · rw [h2]; rfl
            · exact (hu m n (by omega) (by omega) h2 h1).elim
        exact this n (Nat.le_refl _)
      omega
theorem cnt_lt {a b : Int} (ha : 0 ≤ a) (hab : a ≤ b) : ∀ n : Nat, smF (fun u => if a ≤ (u : Int) ∧ (u : Int) < b then 1 else 0) n = if (n : Int) ≤ a then 0 else if (n : Int) ≤ b then n - a else b - a
  | 0 => by rw [smF, if_pos (by omega)]
  | n + 1 => by
    rw [smF, cnt_lt ha hab n]
    split <;> split <;> (try split) <;> (try split) <;> omega
theorem cnt_win {d : Dv} {s c : Int} {N : Nat} (hN : (N : Int) = c) (hs : 0 ≤ s ∧ s < c) (hw : 0 ≤ win d ∧ win d ≤ c) : smF (fun u => if inW d s c u = true then 1 else 0) N = win d := by
  have e : ∀ u : Nat, u < N → (if inW d s c u = true then (1 : Int) else 0) = (if s ≤ (u : Int) ∧ (u : Int) < s + win d then 1 else 0) + (if (0 : Int) ≤ (u : Int) ∧ (u : Int) < (if s + win d ≤ c then 0 else s + win d - c) then 1 else 0) := fun u hu => by
    have hm : ((u : Int) - s) % c = if (u : Int) < s then (u : Int) - s + c else u - s := by
      rw [emod_cs (by omega) (by omega) (by omega)]
      by_cases h : (u : Int) < s
      · rw [if_pos (show (u : Int) - s < 0 by omega), if_pos h]
      · rw [if_neg (show ¬ (u : Int) - s < 0 by omega), if_pos (show (u : Int) - s < c by omega), if_neg h]
    simp only [inW, decide_eq_true_eq, hm]
    generalize win d = w at *
    by_cases h1 : (u : Int) < s <;> by_cases h2 : s + w ≤ c <;> simp only [h1, h2, if_true, if_false] <;> split <;> split <;> (try split) <;> omega
  rw [smF_congr e, smF_add, cnt_lt hs.1 (by omega), cnt_lt (Int.le_refl _) (by split <;> omega)]
  generalize win d = w at *
  by_cases h2 : s + w ≤ c
  · simp only [h2, if_true]
    (repeat' split) <;> omega
  · simp only [h2, if_false]
    (repeat' split) <;> omega
/-- The windows of a set of devices, added up. -/
theorem wnS_sm {l : List Dv} {t : List Int} : ∀ k, wnS l t k = -(smF (fun j => win (dv l (t.getD j 0))) k)
  | 0 => rfl
  | k + 1 => by rw [wnS, wnS_sm k]; simp only [smF]; omega
theorem no_short {l : List Dv} {c n : Nat} (hO : DvOk l) (hc : 0 < c ∧ c ≤ 40) (hp : pwB l (subL l.length n) (subL l.length n).length = true) (hs : (c : Int) < -(wnS l (subL l.length n) (subL l.length n).length)) : frR l c = none := by
  rw [frR]
  split
  · rfl
  · rename_i hit
    cases hg : grS l c l.length [] with
    | none => rfl
    | some o =>
      exfalso
      obtain ⟨h1, _, h3, h4⟩ := grS_sound hg
      have h1 : o.length = l.length := by simpa using h1
      have hst := h3 (fun i hi => by cases hi)
      have hw : ∀ k, k < l.length → win (l.getD k (0, 0, 0)) ≤ c := fun k hk => by
        have : itB l c k = false := by
          rw [Bool.eq_false_iff]; intro hb; exact hit (List.any_eq_true.2 ⟨k, List.mem_range.2 hk, hb⟩)
        have := of_decide_eq_false this
        omega
      have htm : ∀ y ∈ subL l.length n, 0 ≤ y ∧ y < l.length := fun y hy => subL_mem hy
      have hts : srt (subL l.length n) := srt_of fltL_asc
      generalize subL l.length n = t at *
      have hcnt : ∀ j, j < t.length → smF (fun u => if inW (dv l (t.getD j 0)) (o.getD (t.getD j 0).toNat 0) c u = true then 1 else 0) c = win (dv l (t.getD j 0)) := fun j hj => by
        have hm := htm _ (getD_mem 0 hj)
        have hd := hO.d (t.getD j 0).toNat (by omega)
        have hwj := hw (t.getD j 0).toNat (by omega)
        refine cnt_win rfl (hst _ (by omega)) ⟨?_, hwj⟩
        show 0 ≤ (l.getD (t.getD j 0).toNat (0, 0, 0)).2.1 + (l.getD (t.getD j 0).toNat (0, 0, 0)).2.2
        obtain ⟨_, h5, h6⟩ := hd
        omega
      rw [wnS_sm, Int.neg_neg, ← smF_congr hcnt, ← smF_swap] at hs
      have hle : smF (fun u => smF (fun j => if inW (dv l (t.getD j 0)) (o.getD (t.getD j 0).toNat 0) c u = true then 1 else 0) t.length) c ≤ c := by
        refine smF_one_le fun u hu => smF_uniq (fun j _ => by split; exact .inr rfl; exact .inl rfl) fun i j hij hj hi1 hj1 => ?_
        have hii : inW (dv l (t.getD i 0)) (o.getD (t.getD i 0).toNat 0) c u = true := by
          have h9 : (if inW (dv l (t.getD i 0)) (o.getD (t.getD i 0).toNat 0) c u = true then (1 : Int) else 0) = 1 := hi1
          by_cases h8 : inW (dv l (t.getD i 0)) (o.getD (t.getD i 0).toNat 0) c u = true
          · exact h8
          · rw [if_neg h8] at h9; exact absurd h9 (by decide)
        have hjj : inW (dv l (t.getD j 0)) (o.getD (t.getD j 0).toNat 0) c u = true := by
          have h9 : (if inW (dv l (t.getD j 0)) (o.getD (t.getD j 0).toNat 0) c u = true then (1 : Int) else 0) = 1 := hj1
          by_cases h8 : inW (dv l (t.getD j 0)) (o.getD (t.getD j 0).toNat 0) c u = true
          · exact h8
          · rw [if_neg h8] at h9; exact absurd h9 (by decide)
        have hmi := htm _ (getD_mem 0 (show i < t.length by omega))
        have hmj := htm _ (getD_mem 0 hj)
        have hlt := hts i j hij hj
        have hdi := hO.d (t.getD i 0).toNat (by omega)
        have hdj := hO.d (t.getD j 0).toNat (by omega)
        have hmt : mtB (l.getD (t.getD i 0).toNat (0, 0, 0)) (l.getD (t.getD j 0).toNat (0, 0, 0)) (o.getD (t.getD i 0).toNat 0) (o.getD (t.getD j 0).toNat 0) c = true :=
          (mtB_iff hdi hdj (by omega) (hst _ (by omega)) (hst _ (by omega))).2 ⟨u, by omega, hii, hjj⟩
        have hds : dist (l.getD (t.getD i 0).toNat (0, 0, 0)) (l.getD (t.getD j 0).toNat (0, 0, 0)) = true := by
          have h5 := List.all_eq_true.1 (List.all_eq_true.1 hp j (List.mem_range.2 hj)) i (List.mem_range.2 hij)
          have h6 := of_decide_eq_true h5
          refine decide_eq_true ?_
          simp only [dv] at h6
          omega
        have h7 := h4 (t.getD j 0).toNat (Nat.zero_le _) (by omega) (t.getD i 0).toNat (by omega)
        rw [bpB, hds, hmt] at h7
        exact absurd h7 (by decide)
      omega
end Go.Pw

set_option linter.unusedVariables false
set_option maxHeartbeats 2000000
set_option maxRecDepth 100000
namespace Go.Pw
open Go Go.Proofs
/-- moonpool/moonpoolbase.CopyInts -/
def lc47u : LCode :=
  (.seq (.region [⟨some 2, .mv (.const (.slice none 0 0)), none⟩]) (.seq (.region [⟨some 3, .lit false 3 1 [], none⟩, ⟨some 4, .mv (.tmp 0), none⟩, ⟨some 5, .append true 3 1 8
    (.tmp 3) (.tmp 4), none⟩, ⟨some 2, .mv (.tmp 5), none⟩]) .ret))
theorem low47u : lowF Tryz.prog [5] Tryz.f47 = some (6, lc47u.strip, [.tmp 2]) := by kernel_rfl
theorem fn47u : FnOk Tryz.prog 47 6 lc47u [.tmp 2] := ⟨Tryz.call47, [5], _, Tryz.func47, low47u⟩
end Go.Pw

set_option linter.unusedSimpArgs false
set_option linter.unusedVariables false
set_option maxHeartbeats 1000000
namespace Go.Pw
set_option maxRecDepth 2000
open Go Go.Proofs A1 A2 A3 A4
theorem C13 {l : List Dv} : DvOk l → PFD Tryz.prog 13 [.c (trs l)] (vbl (decide ((∀ k, k < l.length → win (l.getD k (0, 0, 0)) ≤ 5) ∧ (l.length : Int) ≤ 4))) := fun hO => by
  have hn := hO.n
  obtain ⟨q, hq⟩ : ∃ q, q = decide ((∀ k, k < l.length → win (l.getD k (0, 0, 0)) ≤ 5) ∧ (l.length : Int) ≤ 4) := ⟨_, rfl⟩
  rw [← hq]
  refine pi1 fn13 ?_
  (repeat' first | (refine Owe.same ?_; first | refine Owe.o ?_ | refine Owe.mk ?_ ?_) | (refine Fork.same ?_; (first | refine fkD ?_ ?_ | refine fkN ?_ ?_ | refine fkM ?_ ?_) <;> intro h) | refine MvQ.stay ?_)
  refine Sat.lp0 (fun k : Nat => [(3, vi .i64 k), (0, .c (trs l))]) (fun k => k ≤ l.length ∧ ∀ i, i < k → win (l.getD i (0, 0, 0)) ≤ 5) (fun k => l.length - k) 0 ⟨Nat.zero_le _, fun i hi => by omega⟩ (by ((first | refine qen ?_ | refine qvs ?_ | refine qeq ?_ | refine qst ?_ | refine qv ?_ | refine qc ?_ | refine qe ?_ | refine qcs ?_ | skip); (repeat' first | exact rfl | (refine qS ?_; constructor)))) ?_
  intro k hk
  refine Fork.dec (fun hlt => ?_) (fun hlt => ?_)
  · have hlt : k < l.length := Int.ofNat_lt.1 hlt
    have c32 := C32 (d := l.getD k (0, 0, 0)) (hO.d k hlt)
    have hw : win (l.getD k (0, 0, 0)) = win (l.getD k (0, 0, 0)) := rfl
    generalize hW : win (l.getD k (0, 0, 0)) = w at *
    (repeat' first | (refine Owe.same ?_; first | refine Owe.o ?_ | refine Owe.mk ?_ ?_) | (refine Fork.same ?_; (first | refine fkD ?_ ?_ | refine fkN ?_ ?_ | refine fkM ?_ ?_) <;> intro h) | ((first | refine OpsL.same ?_ | refine OpsDL.same ?_); first | refine pK c32 rfl rfl ?_) | refine MvQ.stay ?_)
    · have : q = false := by
        rw [hq]; exact decide_eq_false fun hh => by have := hh.1 k hlt; omega
      rw [this]
      (refine rqK rfl ?_; (repeat' first | exact rfl | (refine qS ?_; constructor)))
    · refine again0 (k + 1) ⟨hlt, fun i hi => ?_⟩ (by omega) (by ((first | refine qen ?_ | refine qvs ?_ | refine qeq ?_ | refine qst ?_ | refine qv ?_ | refine qc ?_ | refine qe ?_ | refine qcs ?_ | skip); (repeat' first | exact rfl | (refine qS ?_; constructor))))
      rcases Nat.lt_succ_iff_lt_or_eq.1 hi with h9 | rfl
      · exact hk.2 i h9
      · omega
  · have hlt : ¬ ((k : Int) < (l.length : Int)) := hlt
    (repeat' first | (refine Owe.same ?_; first | refine Owe.o ?_ | refine Owe.mk ?_ ?_) | (refine Fork.same ?_; (first | refine fkD ?_ ?_ | refine fkN ?_ ?_ | refine fkM ?_ ?_) <;> intro h) | refine MvQ.stay ?_)
    (refine rqK rfl ?_; (repeat' first | exact rfl | (refine qS ?_; constructor)))
    rw [hq, decide_eq_decide]
    exact ⟨fun h => ⟨fun i hi => hk.2 i (by omega), h⟩, fun h => h.2⟩
theorem all_succ (f : Nat → Bool) (k : Nat) : (List.range (k + 1)).all f = ((List.range k).all f && f k) := by
  rw [List.range_succ, List.all_append]; simp
theorem C80 {l : List Dv} {c : Nat} (hl : DvOk l) (hc : 0 < c ∧ c ≤ 40) : ∀ (f : Nat) (st : List Int), st.length + f = l.length → stOk st c → PFD Tryz.prog 80 [.c (trs l), vi .i64 c, .c (ints st)] (.tup [.c (ints ((grS l c f st).getD [])), vbl (grS l c f st).isSome])
  | 0, st, hf, hs => by
    have hn := hl.n
    rw [grS]
    simp only [Option.getD_some, Option.isSome_some]
    refine pi2 fn80 ?_
    (repeat' first | (refine Owe.same ?_; first | refine Owe.o ?_ | refine Owe.mk ?_ ?_) | (refine Fork.same ?_; (first | refine fkY ?_ | refine fkF ?_ | ((first | refine fkD ?_ ?_ | refine fkN ?_ ?_ | refine fkM ?_ ?_) <;> intro h))) | ((first | refine OpsL.same ?_ | refine OpsDL.same ?_); first | refine oK C10 rfl rfl rfl ?_) | refine MvQ.stay ?_)
    (refine rqK rfl ?_; (repeat' first | exact rfl | (refine qS ?_; constructor)))
  | f + 1, st, hf, hs => by
    have hn := hl.n
    have ih := C80 hl hc f
    rw [grS]
    obtain ⟨g, hg⟩ : ∃ g : Nat → Option (List Int), g = fun n : Nat => if freB l st st.length n c = true then grS l c f (st ++ [(n : Int)]) else none := ⟨_, rfl⟩
    rw [← hg]
    obtain ⟨q, hq⟩ : ∃ q, tryG g c 0 = q := ⟨_, rfl⟩
    rw [hq]
    refine pi2 fn80 ?_
    (repeat' first | (refine Owe.same ?_; first | refine Owe.o ?_ | refine Owe.mk ?_ ?_) | (refine Fork.same ?_; (first | refine fkY ?_ | refine fkF ?_ | ((first | refine fkD ?_ ?_ | refine fkN ?_ ?_ | refine fkM ?_ ?_) <;> intro h))) | ((first | refine OpsL.same ?_ | refine OpsDL.same ?_); first | refine oK C10 rfl rfl rfl ?_) | refine MvQ.stay ?_)
    refine Sat.lp0 (fun n : Nat => [(9, vi .i64 n), (8, vi .i64 st.length), (0, .c (trs l)), (1, vi .i64 c), (2, .c (ints st))]) (fun n => n ≤ c ∧ q = tryG g (c - n) n) (fun n => c - n) 0 ⟨Nat.zero_le _, hq.symm⟩ (by ((first | refine qen ?_ | refine qvs ?_ | refine qeq ?_ | refine qst ?_ | refine qv ?_ | refine qc ?_ | refine qe ?_ | refine qcs ?_ | skip); (repeat' first | exact rfl | (refine qS ?_; constructor)))) ?_
    intro n hn'
    have he := hn'.2
    refine Fork.dec (fun hlt => ?_) (fun hlt => ?_)
    · have hlt : n < c := Int.ofNat_lt.1 hlt
      rw [show c - n = (c - (n + 1)) + 1 by omega, tryG] at he
      have hso : stOk (st ++ [(n : Int)]) c := stOk_app hs (by omega)
      have ih := ih (st ++ [(n : Int)]) (by rw [List.length_append, List.length_singleton]; omega) hso
      (repeat' first | (refine Owe.same ?_; first | refine Owe.o ?_ | refine Owe.mk ?_ ?_) | (refine Fork.same ?_; (first | refine fkD ?_ ?_ | refine fkN ?_ ?_ | refine fkM ?_ ?_) <;> intro h) | refine MvQ.stay ?_)
      refine Sat.lp0 (fun i : Nat => [(11, vi .i64 i), (10, vbl ((List.range i).all fun i => !(dist (l.getD i (0, 0, 0)) (l.getD st.length (0, 0, 0)) && mtB (l.getD i (0, 0, 0)) (l.getD st.length (0, 0, 0)) (st.getD i 0) n c))), (9, vi .i64 n), (8, vi .i64 st.length), (0, .c (trs l)), (1, vi .i64 c), (2, .c (ints st))]) (fun i => i ≤ st.length) (fun i => st.length - i) 0 (Nat.zero_le _) ?_ ?_
      · simp only [List.range_zero, List.all_nil]; ((first | refine qen ?_ | refine qvs ?_ | refine qeq ?_ | refine qst ?_ | refine qv ?_ | refine qc ?_ | refine qe ?_ | refine qcs ?_ | skip); (repeat' first | exact rfl | (refine qS ?_; constructor)))
      intro i hi
      refine Fork.dec (fun hli => ?_) (fun hli => ?_)
      · have hli : i < st.length := Int.ofNat_lt.1 hli
        have c89 := C89 (a := l.getD i (0, 0, 0)) (b := l.getD st.length (0, 0, 0)) (s := st.getD i 0) (t := n) (c := c) ⟨⟨hl.d i (by omega), hl.d st.length (by omega)⟩, by omega, hs i hli, by omega⟩
        have e := all_succ (fun i => !(dist (l.getD i (0, 0, 0)) (l.getD st.length (0, 0, 0)) && mtB (l.getD i (0, 0, 0)) (l.getD st.length (0, 0, 0)) (st.getD i 0) n c)) i
        generalize (dist (l.getD i (0, 0, 0)) (l.getD st.length (0, 0, 0)) && mtB (l.getD i (0, 0, 0)) (l.getD st.length (0, 0, 0)) (st.getD i 0) n c) = b at *
        generalize (List.range i).all (fun i => !(dist (l.getD i (0, 0, 0)) (l.getD st.length (0, 0, 0)) && mtB (l.getD i (0, 0, 0)) (l.getD st.length (0, 0, 0)) (st.getD i 0) n c)) = a at *
        (repeat' first | (refine Owe.same ?_; first | refine Owe.o ?_ | refine Owe.mk ?_ ?_) | (refine Fork.same ?_; (first | refine fkD ?_ ?_ | refine fkN ?_ ?_ | refine fkM ?_ ?_) <;> intro h) | ((first | refine OpsL.same ?_ | refine OpsDL.same ?_); first | refine pK c89 rfl rfl ?_) | refine MvQ.stay ?_)
        · refine again0 (i + 1) hli (by omega) ?_
          rw [e, h, Bool.true_and]; ((first | refine qen ?_ | refine qvs ?_ | refine qeq ?_ | refine qst ?_ | refine qv ?_ | refine qc ?_ | refine qe ?_ | refine qcs ?_ | skip); (repeat' first | exact rfl | (refine qS ?_; constructor)))
        · refine again0 (i + 1) hli (by omega) ?_
          rw [e, h, Bool.false_and]; ((first | refine qen ?_ | refine qvs ?_ | refine qeq ?_ | refine qst ?_ | refine qv ?_ | refine qc ?_ | refine qe ?_ | refine qcs ?_ | skip); (repeat' first | exact rfl | (refine qS ?_; constructor)))
      · have hii : i = st.length := by have : ¬ i < st.length := fun hh => hli (Int.ofNat_lt.2 hh); omega
        subst hii
        obtain ⟨fr, hfr⟩ : ∃ fr, fr = freB l st st.length n c := ⟨_, rfl⟩
        have hfr' : (List.range st.length).all (fun i => !(dist (l.getD i (0, 0, 0)) (l.getD st.length (0, 0, 0)) && mtB (l.getD i (0, 0, 0)) (l.getD st.length (0, 0, 0)) (st.getD i 0) n c)) = fr := hfr.symm
        rw [hfr']
        have hgn : g n = if fr = true then grS l c f (st ++ [(n : Int)]) else none := by rw [hg, hfr]
        clear hfr hfr'
        rcases fr with _ | _
        · rw [if_neg (by decide)] at hgn
          rw [hgn] at he
          (repeat' first | (refine Owe.same ?_; first | refine Owe.o ?_ | refine Owe.mk ?_ ?_) | (refine Fork.same ?_; (first | refine fkY ?_ | refine fkF ?_ | ((first | refine fkD ?_ ?_ | refine fkN ?_ ?_ | refine fkM ?_ ?_) <;> intro h))) | ((first | refine OpsL.same ?_ | refine OpsDL.same ?_); first | refine oK C10 rfl rfl rfl ?_) | refine MvQ.stay ?_)
          exact again0 (n + 1) ⟨hlt, he⟩ (by omega) (by ((first | refine qen ?_ | refine qvs ?_ | refine qeq ?_ | refine qst ?_ | refine qv ?_ | refine qc ?_ | refine qe ?_ | refine qcs ?_ | skip); (repeat' first | exact rfl | (refine qS ?_; constructor))))
        · rw [if_pos rfl] at hgn
          (repeat' first | (refine Owe.same ?_; first | refine Owe.o ?_ | refine Owe.mk ?_ ?_) | (refine Fork.same ?_; (first | refine fkY ?_ | refine fkF ?_ | ((first | refine fkD ?_ ?_ | refine fkN ?_ ?_ | refine fkM ?_ ?_) <;> intro h))) | ((first | refine OpsL.same ?_ | refine OpsDL.same ?_); first | refine oK C10 rfl rfl rfl ?_) | refine MvQ.stay ?_)
          rcases Nat.eq_zero_or_pos st.length with hz | hz
          · have hst : st = [] := List.eq_nil_of_length_eq_zero hz
            subst hst
            refine OpsL.as 55 (.c (.d (.sl 0 0 fun _ => []))) ?_ ?_
            · exact VEq.c _ _ (.d _ _ (.e ..))
            refine Ops.cs rfl rfl (CallS.of fn47u rfl ?_)
            (repeat' first | (refine Owe.same ?_; first | refine Owe.o ?_ | refine Owe.mk ?_ ?_) | (refine Fork.same ?_; (first | refine fkD ?_ ?_ | refine fkN ?_ ?_ | refine fkM ?_ ?_) <;> intro h) | refine MvQ.stay ?_)
            refine OpsL.frz 59 0 rfl rfl (Nat.le_refl _) ?_
            refine OpsL.as 59 (.c (ints ([] ++ [(n : Int)]))) ?_ ?_
            · refine VEq.c _ _ (.d _ _ (.sl 1 1 _ _ fun i hi => ?_))
              match i, hi with
              | 0, _ => rfl
            rcases hgr : grS l c f ([] ++ [(n : Int)]) with _ | o
            · rw [hgr] at ih hgn
              rw [hgn] at he
              simp only [Option.getD_none, Option.isSome_none] at ih
              (repeat' first | (refine Owe.same ?_; first | refine Owe.o ?_ | refine Owe.mk ?_ ?_) | (refine Fork.same ?_; (first | refine fkY ?_ | refine fkF ?_ | ((first | refine fkD ?_ ?_ | refine fkN ?_ ?_ | refine fkM ?_ ?_) <;> intro h))) | ((first | refine OpsL.same ?_ | refine OpsDL.same ?_); first | refine oK ih rfl rfl rfl ?_) | refine MvQ.stay ?_)
              exact again0 (n + 1) ⟨hlt, he⟩ (by omega) (by ((first | refine qen ?_ | refine qvs ?_ | refine qeq ?_ | refine qst ?_ | refine qv ?_ | refine qc ?_ | refine qe ?_ | refine qcs ?_ | skip); (repeat' first | exact rfl | (refine qS ?_; constructor))))
            · rw [hgr] at ih hgn
              rw [hgn] at he
              have : q = some o := he
              subst this
              simp only [Option.getD_some, Option.isSome_some] at ih ⊢
              (repeat' first | (refine Owe.same ?_; first | refine Owe.o ?_ | refine Owe.mk ?_ ?_) | (refine Fork.same ?_; (first | refine fkY ?_ | refine fkF ?_ | ((first | refine fkD ?_ ?_ | refine fkN ?_ ?_ | refine fkM ?_ ?_) <;> intro h))) | ((first | refine OpsL.same ?_ | refine OpsDL.same ?_); first | refine oK ih rfl rfl rfl ?_) | refine MvQ.stay ?_)
              (refine rqK rfl ?_; (repeat' first | exact rfl | (refine qS ?_; constructor)))
          · refine Ops.cs rfl rfl (CallS.of fn47u rfl ?_)
            (repeat' first | (refine Owe.same ?_; first | refine Owe.o ?_ | refine Owe.mk ?_ ?_) | (refine Fork.same ?_; (first | refine fkD ?_ ?_ | refine fkN ?_ ?_ | refine fkM ?_ ?_) <;> intro h) | refine MvQ.stay ?_)
            refine OpsL.frz 59 1 rfl rfl (Nat.le_refl _) ?_
            refine OpsL.as 59 (.c (ints (st ++ [(n : Int)]))) (QQ.sound (.dapp ⟨_, rfl, rfl⟩)) ?_
            rcases hgr : grS l c f (st ++ [(n : Int)]) with _ | o
            · rw [hgr] at ih hgn
              rw [hgn] at he
              simp only [Option.getD_none, Option.isSome_none] at ih
              (repeat' first | (refine Owe.same ?_; first | refine Owe.o ?_ | refine Owe.mk ?_ ?_) | (refine Fork.same ?_; (first | refine fkY ?_ | refine fkF ?_ | ((first | refine fkD ?_ ?_ | refine fkN ?_ ?_ | refine fkM ?_ ?_) <;> intro h))) | ((first | refine OpsL.same ?_ | refine OpsDL.same ?_); first | refine oK ih rfl rfl rfl ?_) | refine MvQ.stay ?_)
              exact again0 (n + 1) ⟨hlt, he⟩ (by omega) (by ((first | refine qen ?_ | refine qvs ?_ | refine qeq ?_ | refine qst ?_ | refine qv ?_ | refine qc ?_ | refine qe ?_ | refine qcs ?_ | skip); (repeat' first | exact rfl | (refine qS ?_; constructor))))
            · rw [hgr] at ih hgn
              rw [hgn] at he
              have : q = some o := he
              subst this
              simp only [Option.getD_some, Option.isSome_some] at ih ⊢
              (repeat' first | (refine Owe.same ?_; first | refine Owe.o ?_ | refine Owe.mk ?_ ?_) | (refine Fork.same ?_; (first | refine fkY ?_ | refine fkF ?_ | ((first | refine fkD ?_ ?_ | refine fkN ?_ ?_ | refine fkM ?_ ?_) <;> intro h))) | ((first | refine OpsL.same ?_ | refine OpsDL.same ?_); first | refine oK ih rfl rfl rfl ?_) | refine MvQ.stay ?_)
              (refine rqK rfl ?_; (repeat' first | exact rfl | (refine qS ?_; constructor)))
    · have hcn : n = c := by have : ¬ n < c := fun hh => hlt (Int.ofNat_lt.2 hh); omega
      subst hcn
      rw [Nat.sub_self] at he
      have : q = none := he
      rw [this]
      (repeat' first | (refine Owe.same ?_; first | refine Owe.o ?_ | refine Owe.mk ?_ ?_) | (refine Fork.same ?_; (first | refine fkD ?_ ?_ | refine fkN ?_ ?_ | refine fkM ?_ ?_) <;> intro h) | refine MvQ.stay ?_)
      (refine rqK rfl ?_; (repeat' first | exact rfl | (refine qS ?_; constructor)))
end Go.Pw

set_option linter.unusedSimpArgs false
set_option linter.unusedVariables false
set_option maxHeartbeats 1000000
namespace Go.Pw
set_option maxRecDepth 2000
open Go Go.Proofs A1 A2 A3 A4
/-- The turns of starts that were found. -/
def frT (c : Nat) : Option (List Int) → Tn
  | some o => ((c : Int), o)
  | none => (0, [])
theorem C24 {l : List Dv} {c : Nat} (hl : DvOk l) (hc : 0 < c ∧ c ≤ 40) : PFD Tryz.prog 24 [.c (trs l), vi .i64 c] (.tup [tv (frT c (frR l c)), vbl (frR l c).isSome]) := by
  have hn := hl.n
  have c80 := C80 hl hc l.length [] (by simp) (fun i hi => by cases hi)
  obtain ⟨q, hq⟩ : ∃ q, q = frR l c := ⟨_, rfl⟩
  rw [← hq]
  rw [frR] at hq
  refine pi2 fn24 ?_
  (repeat' first | (refine Owe.same ?_; first | refine Owe.o ?_ | refine Owe.mk ?_ ?_) | (refine Fork.same ?_; (first | refine fkD ?_ ?_ | refine fkN ?_ ?_ | refine fkM ?_ ?_) <;> intro h) | refine MvQ.stay ?_)
  refine Sat.lp (fun i : Nat => ⟨[(6, vi .i64 i), (0, .c (trs l)), (1, vi .i64 c), (4, .c (.bp 0 0))], [(0, .box [int 0, .d (.v (.slice none 0 0))])], 1⟩)
    (fun i => i ≤ l.length ∧ ∀ j, j < i → itB l c j = false) (fun i => l.length - i) 0 [0] ⟨Nat.zero_le _, fun j hj => by omega⟩ ?_ ?_
  · (refine qis ?_ ?_ <;> (repeat' first | exact rfl | (refine qS ?_; constructor)))
  · intro i hi
    refine Fork.dec (fun hlt => ?_) (fun hlt => ?_)
    · have hlt : i < l.length := Int.ofNat_lt.1 hlt
      have c79 : PFD Tryz.prog 79 [tr (l.getD i (0, 0, 0)), vi .i64 c] (vbl (itB l c i)) := C79 (d := l.getD i (0, 0, 0)) (c := c) (hl.d i hlt)
      obtain ⟨b, hb⟩ : ∃ b, b = itB l c i := ⟨_, rfl⟩
      rw [← hb] at c79
      rcases b with _ | _
      · (repeat' first | (refine Owe.same ?_; first | refine Owe.o ?_ | refine Owe.mk ?_ ?_) | (refine Fork.same ?_; (first | refine fkY ?_ | refine fkF ?_ | ((first | refine fkD ?_ ?_ | refine fkN ?_ ?_ | refine fkM ?_ ?_) <;> intro h))) | ((first | refine OpsL.same ?_ | refine OpsDL.same ?_); first | refine oK c79 rfl rfl rfl ?_) | refine MvQ.stay ?_)
        refine again (i + 1) [0] ⟨hlt, fun j hj => ?_⟩ (by omega) ?_
        · rcases Nat.lt_succ_iff_lt_or_eq.1 hj with h9 | rfl
          · exact hi.2 j h9
          · exact hb.symm
        · (refine qis ?_ ?_ <;> (repeat' first | exact rfl | (refine qS ?_; constructor)))
      · rw [if_pos (List.any_eq_true.2 ⟨i, List.mem_range.2 hlt, hb.symm⟩)] at hq
        subst hq
        (repeat' first | (refine Owe.same ?_; first | refine Owe.o ?_ | refine Owe.mk ?_ ?_) | (refine Fork.same ?_; (first | refine fkY ?_ | refine fkF ?_ | ((first | refine fkD ?_ ?_ | refine fkN ?_ ?_ | refine fkM ?_ ?_) <;> intro h))) | ((first | refine OpsL.same ?_ | refine OpsDL.same ?_); first | refine oK c79 rfl rfl rfl ?_) | refine MvQ.stay ?_)
        (refine rqK rfl ?_; (repeat' first | exact rfl | (refine qS ?_; constructor)))
    · have hno : ¬ (List.range l.length).any (itB l c) = true := fun h => by
        obtain ⟨k, hk, h⟩ := List.any_eq_true.1 h
        have hk := List.mem_range.1 hk
        have : ¬ i < l.length := fun hh => hlt (Int.ofNat_lt.2 hh)
        rw [hi.2 k (by omega)] at h; cases h
      rw [if_neg hno] at hq
      rw [← hq] at c80
      rcases q with _ | o
      · simp only [Option.getD_none, Option.isSome_none] at c80
        (repeat' first | (refine Owe.same ?_; first | refine Owe.o ?_ | refine Owe.mk ?_ ?_) | (refine Fork.same ?_; (first | refine fkY ?_ | refine fkF ?_ | ((first | refine fkD ?_ ?_ | refine fkN ?_ ?_ | refine fkM ?_ ?_) <;> intro h))) | ((first | refine OpsL.same ?_ | refine OpsDL.same ?_); first | refine pK c80 rfl rfl ?_) | refine MvQ.stay ?_)
        (refine rqK rfl ?_; (repeat' first | exact rfl | (refine qS ?_; constructor)))
      · simp only [Option.getD_some, Option.isSome_some] at c80
        (repeat' first | (refine Owe.same ?_; first | refine Owe.o ?_ | refine Owe.mk ?_ ?_) | (refine Fork.same ?_; (first | refine fkY ?_ | refine fkF ?_ | ((first | refine fkD ?_ ?_ | refine fkN ?_ ?_ | refine fkM ?_ ?_) <;> intro h))) | ((first | refine OpsL.same ?_ | refine OpsDL.same ?_); first | refine pK c80 rfl rfl ?_) | refine MvQ.stay ?_)
        (refine rqK rfl ?_; (repeat' first | exact rfl | (refine qS ?_; constructor)))
/-- The shortest turns, looked for from a cycle on. -/
def stT (l : List Dv) : Nat → Nat → Tn × Bool
  | 0, _ => ((0, []), false)
  | r + 1, c => match frR l c with
    | some o => (((c : Int), o), true)
    | none => stT l r (c + 1)
theorem C21 {l : List Dv} (hl : DvOk l) : PFD Tryz.prog 21 [.c (trs l)] (.tup [tv (stT l 40 1).1, vbl (stT l 40 1).2]) := by
  obtain ⟨q, hq⟩ : ∃ q, q = stT l 40 1 := ⟨_, rfl⟩
  rw [← hq]
  refine pi2 fn21 ?_
  (repeat' first | (refine Owe.same ?_; first | refine Owe.o ?_ | refine Owe.mk ?_ ?_) | (refine Fork.same ?_; (first | refine fkD ?_ ?_ | refine fkN ?_ ?_ | refine fkM ?_ ?_) <;> intro h) | refine MvQ.stay ?_)
  refine Sat.lp (fun c : Nat => ⟨[(4, vi .i64 c), (0, .c (trs l)), (2, .c (.bp 0 0))], [(0, .box [int 0, .d (.v (.slice none 0 0))])], 1⟩)
    (fun c => (1 ≤ c ∧ c ≤ 41) ∧ q = stT l (41 - c) c) (fun c => 41 - c) 1 [0] ⟨by omega, hq⟩ ?_ ?_
  · (refine qis ?_ ?_ <;> (repeat' first | exact rfl | (refine qS ?_; constructor)))
  · intro c hc
    refine Fork.dec (fun hlt => ?_) (fun hlt => ?_)
    · have he := hc.2
      rw [show 41 - c = (41 - (c + 1)) + 1 by omega, stT] at he
      have c24 := C24 (c := c) hl ⟨by omega, by omega⟩
      obtain ⟨w, hw⟩ : ∃ w, w = frR l c := ⟨_, rfl⟩
      rw [← hw] at c24 he
      rcases w with _ | o
      · simp only [frT, Option.isSome_none] at c24
        have he : q = stT l (41 - (c + 1)) (c + 1) := he
        (repeat' first | (refine Owe.same ?_; first | refine Owe.o ?_ | refine Owe.mk ?_ ?_) | (refine Fork.same ?_; (first | refine fkY ?_ | refine fkF ?_ | ((first | refine fkD ?_ ?_ | refine fkN ?_ ?_ | refine fkM ?_ ?_) <;> intro h))) | ((first | refine OpsL.same ?_ | refine OpsDL.same ?_); first | refine oK c24 rfl rfl rfl ?_) | refine MvQ.stay ?_)
        refine again (c + 1) [0] ⟨by omega, he⟩ (by omega) ?_
        (refine qis ?_ ?_ <;> (repeat' first | exact rfl | (refine qS ?_; constructor)))
      · simp only [frT, Option.isSome_some] at c24
        have he : q = (((c : Int), o), true) := he
        subst he
        (repeat' first | (refine Owe.same ?_; first | refine Owe.o ?_ | refine Owe.mk ?_ ?_) | (refine Fork.same ?_; (first | refine fkY ?_ | refine fkF ?_ | ((first | refine fkD ?_ ?_ | refine fkN ?_ ?_ | refine fkM ?_ ?_) <;> intro h))) | ((first | refine OpsL.same ?_ | refine OpsDL.same ?_); first | refine oK c24 rfl rfl rfl ?_) | refine MvQ.stay ?_)
        (refine rqK rfl ?_; (repeat' first | exact rfl | (refine qS ?_; constructor)))
    · have : q = ((0, []), false) := by
        rw [hc.2, show 41 - c = 0 by omega]; rfl
      subst this
      (repeat' first | (refine Owe.same ?_; first | refine Owe.o ?_ | refine Owe.mk ?_ ?_) | (refine Fork.same ?_; (first | refine fkD ?_ ?_ | refine fkN ?_ ?_ | refine fkM ?_ ?_) <;> intro h) | refine MvQ.stay ?_)
      (refine rqK rfl ?_; (repeat' first | exact rfl | (refine qS ?_; constructor)))
end Go.Pw

set_option linter.unusedSimpArgs false
set_option linter.unusedVariables false
set_option maxHeartbeats 1000000
namespace Go.Pw
set_option maxRecDepth 2000
open Go Go.Proofs A1 A2 A3 A4
theorem dist_comm (a b : Dv) : dist a b = dist b a := by
  rw [dist, dist, decide_eq_decide]; omega
theorem wnS_pre {l : List Dv} {t t' : List Int} : ∀ {k : Nat}, (∀ i, i < k → t.getD i 0 = t'.getD i 0) → wnS l t k = wnS l t' k
  | 0, _ => rfl
  | k + 1, h => by rw [wnS, wnS, wnS_pre fun i hi => h i (by omega), h k (by omega)]
theorem wnS_app {l : List Dv} {t : List Int} {a : Int} : wnS l (t ++ [a]) (t ++ [a]).length = wnS l t t.length - win (dv l a) := by
  rw [List.length_append, List.length_singleton, wnS, wnS_pre (t' := t) fun i hi => by rw [getD_app, if_pos hi], getD_app, if_neg (by omega), if_pos rfl]
theorem pwB_pre {l : List Dv} {t t' : List Int} {k : Nat} (h : ∀ i, i < k → t.getD i 0 = t'.getD i 0) : pwB l t k = pwB l t' k := by
  rw [pwB, pwB]
  refine all_congr fun i hi => all_congr fun j hj => ?_
  rw [h i hi, h j (by omega)]
theorem pwB_app {l : List Dv} {t : List Int} {a : Int} : pwB l (t ++ [a]) (t ++ [a]).length = (pwB l t t.length && (List.range t.length).all fun j => dist (dv l (t.getD j 0)) (dv l a)) := by
  rw [List.length_append, List.length_singleton, pwB_succ, pwB_pre (t' := t) fun i hi => by rw [getD_app, if_pos hi]]
  congr 1
  refine all_congr fun j hj => ?_
  rw [getD_app, if_neg (by omega), if_pos rfl, getD_app, if_pos hj, dist_comm]
theorem bit0_i64 {b i : Nat} (hb : b < 2 ^ 62) (hi : i < 64) : decide (IntKind.i64.wrap ((BitVec.ofInt IntKind.i64.bits ((b : Int).fdiv (2 ^ min (Int.toNat (i : Int)) IntKind.i64.bits)) &&& BitVec.ofInt IntKind.i64.bits 1).toNat : Nat) = 0) = !b.testBit i := by
  have h := bit_i64 hb hi
  have hbits : IntKind.i64.bits = 64 := rfl
  have e1 : (b : Int).fdiv (2 ^ min (Int.toNat (i : Int)) IntKind.i64.bits) = ((b / 2 ^ i : Nat) : Int) := by
    rw [hbits, Int.toNat_natCast, Nat.min_eq_left (by omega), Int.fdiv_eq_ediv_of_nonneg _ (Int.pow_nonneg (by decide))]
    norm_cast
  rw [e1] at h ⊢
  have hlt : b / 2 ^ i < 2 ^ 62 := by
    have := Nat.div_le_self b (2 ^ i)
    omega
  generalize b / 2 ^ i = q at *
  generalize b.testBit i = w at *
  have key : IntKind.i64.wrap ((BitVec.ofInt IntKind.i64.bits (q : Int) &&& BitVec.ofInt IntKind.i64.bits 1).toNat : Nat) = ((q % 2 : Nat) : Int) := by
    have e2 : (BitVec.ofInt IntKind.i64.bits (q : Int) &&& BitVec.ofInt IntKind.i64.bits 1).toNat = q % 2 := by
      rw [BitVec.toNat_and]
      have f1 : (BitVec.ofInt IntKind.i64.bits (q : Int)).toNat = q := by
        rw [BitVec.toNat_ofInt, hbits]; omega
      have f2 : (BitVec.ofInt IntKind.i64.bits 1).toNat = 1 := rfl
      rw [f1, f2, Nat.and_one_is_mod]
    rw [e2]
    rcases (show q % 2 = 0 ∨ q % 2 = 1 by omega) with h | h <;> rw [h] <;> rfl
  rw [key] at h ⊢
  rcases Nat.mod_two_eq_zero_or_one q with h2 | h2
  · rw [h2] at h ⊢; rw [← h]; rfl
  · rw [h2] at h ⊢; rw [← h]; rfl
theorem wnS_lo {l : List Dv} (hl : DvOk l) {t : List Int} (ht : ∀ x ∈ t, 0 ≤ x ∧ x < l.length) : -(20 * (t.length : Int)) ≤ wnS l t t.length ∧ wnS l t t.length ≤ 0 := wnS_bd hl ht _ (Nat.le_refl _)
theorem C20 {l : List Dv} (hl : DvOk l) : PFD Tryz.prog 20 [.c (trs l)] (.tup [.c (ints (bdK l).l), vi .i64 (-(bdK l).p)]) := by
  have hn := hl.n
  have hshl := shl_i64 (n := l.length) (by omega)
  have hpow : 2 ^ l.length ≤ 2 ^ 5 := Nat.pow_le_pow_right (by decide) hn.2
  have hpow1 : 2 ^ 1 ≤ 2 ^ l.length := Nat.pow_le_pow_right (by decide) hn.1
  have hlo := bestK_lo (c := bdC l) (n := l.length) (lo := -100) (by decide) (fun b => bdC_bd hl b)
  have h1 : bestK (bdC l) l.length 1 = ⟨[], 0, true⟩ := by
    have e : subL l.length 0 = [] := by
      have : ∀ n, fltL (fun i => (0 : Nat).testBit i) n = [] := fun n => by
        induction n with
        | zero => rfl
        | succ n ih => rw [fltL_succ, ih, if_neg (by simp)]
      exact this _
    simp only [bestK, e]
    rfl
  obtain ⟨N, hN⟩ : ∃ N, N = 2 ^ l.length := ⟨_, rfl⟩
  rw [← hN] at hshl hpow hpow1
  rw [bdK, ← hN]
  refine pi2 fn20 ?_
  (repeat' first | (refine Owe.same ?_; first | refine Owe.o ?_ | refine Owe.mk ?_ ?_) | (refine Fork.same ?_; (first | refine fkD ?_ ?_ | refine fkN ?_ ?_ | refine fkM ?_ ?_) <;> intro h) | refine MvQ.stay ?_)
  refine Sat.lp0 (fun b : Nat => [(6, vi .i64 b), (0, .c (trs l)), (4, .c (ints (bestK (bdC l) l.length b).l)), (5, vi .i64 (-(bestK (bdC l) l.length b).p))]) (fun b => (1 ≤ b ∧ b ≤ N) ∧ (bestK (bdC l) l.length b).ok = true) (fun b => N - b) 1 ⟨⟨by omega, by omega⟩, by rw [h1]⟩ ?_ ?_
  · rw [h1]; ((first | refine qen ?_ | refine qvs ?_ | refine qeq ?_ | refine qst ?_ | refine qv ?_ | refine qc ?_ | refine qe ?_ | refine qcs ?_ | skip); (repeat' first | exact rfl | (refine qS ?_; constructor)))
  intro b hb
  rcases Nat.lt_or_eq_of_le hb.1.2 with hbl | rfl
  rotate_left
  · (repeat' first | (refine Owe.same ?_; first | refine Owe.o ?_ | refine Owe.mk ?_ ?_) | (refine Fork.same ?_; (first | refine fkD ?_ ?_ | refine fkN ?_ ?_ | refine fkM ?_ ?_) <;> intro h) | refine MvQ.stay ?_)
    · rw [hshl] at h; omega
    · (refine rqK rfl ?_; (repeat' first | exact rfl | (refine qS ?_; constructor)))
  (repeat' first | (refine Owe.same ?_; first | refine Owe.o ?_ | refine Owe.mk ?_ ?_) | (refine Fork.same ?_; (first | refine fkD ?_ ?_ | refine fkN ?_ ?_ | refine fkM ?_ ?_) <;> intro h) | refine MvQ.stay ?_)
  · rw [hshl] at h
    have hsl := bestK_len (bdC l) l.length b
    have hslo := hlo b
    obtain ⟨s', hs'⟩ : ∃ s', s' = bestK (bdC l) l.length (b + 1) := ⟨_, rfl⟩
    have hs2 := hs'
    have hok := hb.2
    simp only [bestK, fst3_lt, cmpI_lt, cmpI_0] at hs2
    generalize hS : bestK (bdC l) l.length b = s at *
    (repeat' first | (refine Owe.same ?_; first | refine Owe.o ?_ | refine Owe.mk ?_ ?_) | (refine Fork.same ?_; (first | refine fkD ?_ ?_ | refine fkN ?_ ?_ | refine fkM ?_ ?_) <;> intro h) | refine MvQ.stay ?_)
    refine Sat.nilS 7 3 1 (fun i => r1 (([] : List Int).getD i 0)) rfl ?_
    refine Sat.lp (fun i : Nat => ⟨[(10, vi .i64 i), (9, vbl (pwB l (fltL b.testBit i) (fltL b.testBit i).length)), (8, vi .i64 (-(wnS l (fltL b.testBit i) (fltL b.testBit i).length))), (7, .c (.ms 0 (fltL b.testBit i).length)), (6, vi .i64 b), (0, .c (trs l)), (4, .c (ints s.l)), (5, vi .i64 (-s.p))], [(0, rowv 3 1 r1 0 (fltL b.testBit i))], 1⟩)
      (fun i => i ≤ l.length) (fun i => l.length - i) 0 [0] (Nat.zero_le _) ?_ ?_
    · (refine qis ?_ ?_ <;> (repeat' first | exact rfl | (refine qS ?_; constructor)))
    intro i hi
    refine Fork.dec (fun hlt => ?_) (fun hlt => ?_)
    · have hlt : i < l.length := Int.ofNat_lt.1 hlt
      have hbit := bit0_i64 (b := b) (i := i) (by omega) (by omega)
      have f1 := fltL_len b.testBit i
      have f2 := fltL_succ b.testBit i
      (repeat' first | (refine Owe.same ?_; first | refine Owe.o ?_ | refine Owe.mk ?_ ?_) | (refine Fork.same ?_; (first | refine fkD ?_ ?_ | refine fkN ?_ ?_ | refine fkM ?_ ?_) <;> intro h) | refine MvQ.stay ?_)
      · rw [decide_eq_true h] at hbit
        rw [if_neg (by intro hh; rw [hh] at hbit; exact absurd hbit (by decide))] at f2
        refine again (i + 1) [0] hlt (by omega) ?_
        rw [f2]
        (refine qis ?_ ?_ <;> (repeat' first | exact rfl | (refine qS ?_; constructor)))
      · rw [decide_eq_false h] at hbit
        rw [if_pos (by revert hbit; cases b.testBit i <;> simp)] at f2
        have hTm : ∀ y ∈ fltL b.testBit i, 0 ≤ y ∧ y < l.length := fun y hy => by
          have := subL_mem (n := i) (b := b) hy
          omega
        have eP := pwB_app (l := l) (t := fltL b.testBit i) (a := (i : Int))
        have eW := wnS_app (l := l) (t := fltL b.testBit i) (a := (i : Int))
        have hWb := wnS_lo hl hTm
        rw [← f2] at eP eW
        have hdi := hl.d i hlt
        have c32 := C32 (d := l.getD i (0, 0, 0)) hdi
        have hwi : 0 ≤ win (l.getD i (0, 0, 0)) ∧ win (l.getD i (0, 0, 0)) ≤ 20 := by
          obtain ⟨_, h5, h6⟩ := hdi
          show 0 ≤ (l.getD i (0, 0, 0)).2.1 + (l.getD i (0, 0, 0)).2.2 ∧ (l.getD i (0, 0, 0)).2.1 + (l.getD i (0, 0, 0)).2.2 ≤ 20
          omega
        generalize hT : fltL b.testBit i = T at *
        generalize hPP : pwB l T T.length = P at *
        generalize hWW : wnS l T T.length = W at *
        (repeat' first | (refine Owe.same ?_; first | refine Owe.o ?_ | refine Owe.mk ?_ ?_) | (refine Fork.same ?_; (first | refine fkD ?_ ?_ | refine fkN ?_ ?_ | refine fkM ?_ ?_) <;> intro h) | refine MvQ.stay ?_)
        refine Sat.lp (fun k : Nat => ⟨[(11, vi .i64 k), (9, vbl (P && (List.range k).all fun j => dist (dv l (T.getD j 0)) (dv l (i : Int)))), (10, vi .i64 i), (8, vi .i64 (-W)), (7, .c (.ms 0 T.length)), (6, vi .i64 b), (0, .c (trs l)), (4, .c (ints s.l)), (5, vi .i64 (-s.p))], [(0, rowv 3 1 r1 0 T)], 1⟩)
          (fun k => k ≤ T.length) (fun k => T.length - k) 0 [0] (Nat.zero_le _) ?_ ?_
        · simp only [List.range_zero, List.all_nil, Bool.and_true]; (refine qis ?_ ?_ <;> (repeat' first | exact rfl | (refine qS ?_; constructor)))
        intro k hk
        refine Fork.dec (fun hlk => ?_) (fun hlk => ?_)
        · have hlk : k < T.length := Int.ofNat_lt.1 hlk
          have hm := hTm _ (getD_mem 0 hlk)
          have c31 : PFD Tryz.prog 31 [tr (dv l (T.getD k 0)), tr (dv l (i : Int))] (vbl (dist (dv l (T.getD k 0)) (dv l (i : Int)))) := C31 ⟨hl.d (T.getD k 0).toNat (by omega), hdi⟩
          have e := all_succ (fun j => dist (dv l (T.getD j 0)) (dv l (i : Int))) k
          generalize hd : dist (dv l (T.getD k 0)) (dv l (i : Int)) = d at *
          generalize hA : (P && (List.range k).all fun j => dist (dv l (T.getD j 0)) (dv l (i : Int))) = A at *
          (repeat' first | (refine Owe.same ?_; first | refine Owe.o ?_ | refine Owe.mk ?_ ?_) | (refine Fork.same ?_; (first | refine fkY ?_ | refine fkF ?_ | ((first | refine fkD ?_ ?_ | refine fkN ?_ ?_ | refine fkM ?_ ?_) <;> intro h))) | ((first | refine OpsL.same ?_ | refine OpsDL.same ?_); first | refine pK c31 rfl rfl ?_) | refine MvQ.stay ?_)
          · refine again (k + 1) [0] hlk (by omega) ?_
            rw [e, ← Bool.and_assoc, hA, h, Bool.true_and]; (refine qis ?_ ?_ <;> (repeat' first | exact rfl | (refine qS ?_; constructor)))
          · refine again (k + 1) [0] hlk (by omega) ?_
            rw [e, ← Bool.and_assoc, hA, h, Bool.false_and]; (refine qis ?_ ?_ <;> (repeat' first | exact rfl | (refine qS ?_; constructor)))
        · have hkk : k = T.length := by have : ¬ k < T.length := fun hh => hlk (Int.ofNat_lt.2 hh); omega
          subst hkk
          rw [← eP]
          (repeat' first | (refine Owe.same ?_; first | refine Owe.o ?_ | refine Owe.mk ?_ ?_) | (refine Fork.same ?_; (first | refine fkY ?_ | refine fkF ?_ | ((first | refine fkD ?_ ?_ | refine fkN ?_ ?_ | refine fkM ?_ ?_) <;> intro h))) | ((first | refine OpsL.same ?_ | refine OpsDL.same ?_); first | refine oK c32 rfl rfl rfl ?_) | refine MvQ.stay ?_)
          refine again (i + 1) [4] hlt (by omega) ?_
          rw [eW, show -(W - win (dv l (i : Int))) = -W + win (l.getD i (0, 0, 0)) by show -(W - win (l.getD i (0, 0, 0))) = _; omega]
          (refine qis ?_ ?_ <;> (repeat' first | exact rfl | (refine qS ?_; constructor)))
          · rw [f2]; simp
          · exact f2
    · have hil : i = l.length := by have : ¬ i < l.length := fun hh => hlt (Int.ofNat_lt.2 hh); omega
      subst hil
      (repeat' first | (refine Owe.same ?_; first | refine Owe.o ?_ | refine Owe.mk ?_ ?_) | (refine Fork.same ?_; (first | refine fkD ?_ ?_ | refine fkN ?_ ?_ | refine fkM ?_ ?_) <;> intro h))
      refine MvQ.frz 7 _ rfl rfl (Nat.le_refl _) ?_
      have htl : (subL l.length b).length ≤ l.length := fltL_len _ _
      have hWb := wnS_lo hl (t := subL l.length b) fun y hy => subL_mem hy
      have c34 := C34 (l := subL l.length b) (m := s.l) ⟨by omega, by omega⟩
      simp only [bdC] at hs2
      change PFD Tryz.prog 34 [.c (ints (fltL b.testBit l.length)), .c (ints s.l)] (vbl (decide (cmpL (fltL b.testBit l.length) s.l < 0))) at c34
      change (fltL b.testBit l.length).length ≤ _ at htl
      change -(20 * ((fltL b.testBit l.length).length : Int)) ≤ wnS l (fltL b.testBit l.length) (fltL b.testBit l.length).length ∧ wnS l (fltL b.testBit l.length) (fltL b.testBit l.length).length ≤ 0 at hWb
      simp only [subL] at hs2
      generalize fltL b.testBit l.length = T at *
      generalize pwB l T T.length = P at *
      generalize wnS l T T.length = W at *
      rcases P with _ | _
      · have e : s' = s := by rw [hs2, if_neg]; simp
        (repeat' first | (refine Owe.same ?_; first | refine Owe.o ?_ | refine Owe.mk ?_ ?_) | (refine Fork.same ?_; (first | refine fkY ?_ | refine fkF ?_ | ((first | refine fkD ?_ ?_ | refine fkN ?_ ?_ | refine fkM ?_ ?_) <;> intro h))) | ((first | refine OpsL.same ?_ | refine OpsDL.same ?_); first | refine oK c34 rfl rfl rfl ?_) | refine MvQ.stay ?_)
        refine again0 (b + 1) ⟨⟨by omega, hbl⟩, by rw [← hs', e]; exact hok⟩ (by omega) ?_
        rw [← hs', e]; ((first | refine qen ?_ | refine qvs ?_ | refine qeq ?_ | refine qst ?_ | refine qv ?_ | refine qc ?_ | refine qe ?_ | refine qcs ?_ | skip); (repeat' first | exact rfl | (refine qS ?_; constructor)))
      · simp only [if_true, true_and, hok, Bool.true_eq_false, false_or] at hs2
        (repeat' first | (refine Owe.same ?_; first | refine Owe.o ?_ | refine Owe.mk ?_ ?_) | (refine Fork.same ?_; (first | refine fkY ?_ | refine fkF ?_ | ((first | refine fkD ?_ ?_ | refine fkN ?_ ?_ | refine fkM ?_ ?_) <;> intro h))) | ((first | refine OpsL.same ?_ | refine OpsDL.same ?_); first | refine oK c34 rfl rfl rfl ?_) | refine MvQ.stay ?_)
        all_goals first
          | (have e : s' = s := by
              rw [hs2, if_neg]; omega
             refine again0 (b + 1) ⟨⟨by omega, hbl⟩, by rw [← hs', e]; exact hok⟩ (by omega) ?_
             rw [← hs', e]; ((first | refine qen ?_ | refine qvs ?_ | refine qeq ?_ | refine qst ?_ | refine qv ?_ | refine qc ?_ | refine qe ?_ | refine qcs ?_ | skip); (repeat' first | exact rfl | (refine qS ?_; constructor))))
          | (have e : s' = ⟨T, W, true⟩ := by
              rw [hs2, if_pos]; omega
             refine again0 (b + 1) ⟨⟨by omega, hbl⟩, by rw [← hs', e]⟩ (by omega) ?_
             rw [← hs', e]; ((first | refine qen ?_ | refine qvs ?_ | refine qeq ?_ | refine qst ?_ | refine qv ?_ | refine qc ?_ | refine qe ?_ | refine qcs ?_ | skip); (repeat' first | exact rfl | (refine qS ?_; constructor))))
  · rw [hshl] at h; omega
end Go.Pw

set_option linter.unusedSimpArgs false
set_option linter.unusedVariables false
set_option maxHeartbeats 2000000
namespace Go.Pw
set_option maxRecDepth 2000
open Go Go.Proofs A1 A2 A3 A4
theorem ftR_ok {l : List Dv} {c : Nat} (hl : DvOk l) (hc : 0 < c ∧ c ≤ 40) : ftR l c = (frT c (frR l c), if (frR l c).isSome = true then 0 else 12) := by
  have h0 : fstE [(dvsE l).2, cyE (c : Int)] = 0 := fst2.2 ⟨dvsE_ok.2 hl, cyE_ok.2 (by omega)⟩
  rw [ftR, if_pos h0, Int.toNat_natCast, plS_all hc.1 hl.n.1]
  cases frR l c with
  | none => rfl
  | some o => rfl
theorem stT_skip {l : List Dv} : ∀ {d r c : Nat}, (∀ k, c ≤ k → k < c + d → frR l k = none) → stT l (d + r) c = stT l r (c + d)
  | 0, r, c, _ => by rw [Nat.zero_add]; rfl
  | d + 1, r, c, h => by
    rw [show d + 1 + r = (d + r) + 1 by omega, stT, h c (Nat.le_refl _) (by omega)]
    show stT l (d + r) (c + 1) = _
    rw [stT_skip fun k h1 h2 => h k (by omega) (by omega), show c + 1 + d = c + (d + 1) by omega]
theorem findT_eq {l : List Dv} (hl : DvOk l) : ∀ {r c : Nat}, 0 < c → c + r ≤ 41 → findT l r c = ((stT l r c).1, if (stT l r c).2 = true then 0 else 12)
  | 0, _, _, _ => rfl
  | r + 1, c, h0, h1 => by
    rw [findT, stT, ftR_ok hl ⟨h0, by omega⟩]
    cases hf : frR l c with
    | none =>
      have := findT_eq hl (r := r) (c := c + 1) (by omega) (by omega)
      simpa using this
    | some o => rfl
theorem shR_ok {l : List Dv} (hl : DvOk l) : shR l = ((stT l 40 1).1, if (stT l 40 1).2 = true then 0 else 12) := by
  have h0 : (dvsE l).2 = 0 := dvsE_ok.2 hl
  obtain ⟨hb1, hb2⟩ := best_p (c := bdC l) (n := l.length) (2 ^ l.length)
  have hlo := bestK_lo (c := bdC l) (n := l.length) (lo := -100) (by decide) (fun b => bdC_bd hl b) (2 ^ l.length)
  rw [shR, if_pos h0]
  change (bdK l).ok = true → ∃ x, x < 2 ^ l.length ∧ (bdK l).l = subL l.length x ∧ (bdK l).p = (bdC l (subL l.length x)).1 ∧ (bdC l (subL l.length x)).2 = true at hb2
  change -100 ≤ (bdK l).p ∧ (bdK l).p ≤ 0 at hlo
  have e0 : subL l.length 0 = [] := by
    have : ∀ n, fltL (fun i => (0 : Nat).testBit i) n = [] := fun n => by
      induction n with
      | zero => rfl
      | succ n ih => rw [fltL_succ, ih, if_neg (by simp)]
    exact this _
  have hok : (bdK l).ok = true := (hb1 0 (Nat.pow_pos (by decide)) (by rw [e0]; rfl)).1
  obtain ⟨x, _, _, e1, e2⟩ := hb2 hok
  have hp : pwB l (subL l.length x) (subL l.length x).length = true := by
    rw [bdC] at e2
    split at e2
    · assumption
    · cases e2
  rw [bdC, if_pos hp] at e1
  have hno : ∀ k : Nat, 0 < k → k ≤ 40 → (k : Int) < -(bdK l).p → frR l k = none := fun k h1 h2 h3 => no_short (n := x) hl ⟨h1, h2⟩ hp (by rw [e1] at h3; exact h3)
  generalize (bdK l).p = p at *
  obtain ⟨B, hB⟩ : ∃ B : Nat, p = -(B : Int) := ⟨(-p).toNat, by omega⟩
  subst hB
  rw [Int.neg_neg] at hno ⊢
  rcases Nat.eq_zero_or_pos B with rfl | hB
  · rw [show (41 + -((0 : Nat) : Int)).toNat = 40 + 1 by decide, findT, if_neg (by rw [ftR, if_neg (by rw [fst2, cyE_ok]; omega)]; rw [h0]; decide)]
    exact findT_eq hl (r := 40) (c := 1) (by decide) (by decide)
  · rcases Nat.lt_or_ge 41 B with h41 | h41
    · rw [show (41 + -(B : Int)).toNat = 0 by omega, show stT l 40 1 = stT l (40 + 0) 1 from rfl, stT_skip fun k h1 h2 => hno k (by omega) (by omega) (by omega)]
      rfl
    · rw [show (41 + -(B : Int)).toNat = 41 - B by omega, findT_eq hl hB (by omega)]
      have e : stT l 40 1 = stT l (41 - B) B := by
        rw [show (40 : Nat) = (B - 1) + (41 - B) by omega, stT_skip fun k h1 h2 => hno k (by omega) (by omega) (by omega)]
        rw [show 1 + (B - 1) = B by omega]
      rw [e]
theorem frR_len {l : List Dv} {c : Nat} {o : List Int} (h : frR l c = some o) : o.length = l.length := by
  rw [frR] at h
  split at h
  · cases h
  · have := (grS_sound h).1
    simpa using this
theorem stT_no {l : List Dv} : ∀ {r c : Nat}, (stT l r c).2 = false → (stT l r c).1 = (0, [])
  | 0, _, _ => rfl
  | r + 1, c, h => by
    rw [stT] at h ⊢
    cases hf : frR l c with
    | none => rw [hf] at h; exact stT_no h
    | some o => rw [hf] at h; cases h
theorem stT_len {l : List Dv} : ∀ {r c : Nat}, (stT l r c).1.2.length ≤ l.length
  | 0, _ => Nat.zero_le _
  | r + 1, c => by
    rw [stT]
    cases hf : frR l c with
    | none => exact stT_len
    | some o => exact Nat.le_of_eq (frR_len hf)
end Go.Pw

set_option linter.unusedSimpArgs false
set_option linter.unusedVariables false
set_option maxHeartbeats 4000000
namespace Go.Pw
set_option maxRecDepth 2000
open Go Go.Proofs A1 A2 A3 A4
theorem C3 {l : List Dv} {c : Int} : PFD Tryz.prog 3 [.c (trs l), vi .i64 c] (vbl true) := by
  by_cases hl7 : l.length ≤ 7
  · have c16 := C16 (l := l) (by omega)
    have c15 := C15 (l := l) (c := c) (by omega)
    have c17 := C17 (l := l) (by omega)
    have c18 := C18 (l := l) (by omega)
    have c12 := C12 (l := l)
    have c14 := C14 (n := c) (lo := 15) (hi := 40)
    have c0 := C19 (a := (0, [])) (b := (0, [])) (by decide)
    rw [decide_eq_true rfl] at c0
    by_cases h0 : (dvsE l).2 = 0
    · have hD := dvsE_ok.1 h0
      have hn := hD.n
      have c13 := C13 hD
      have c20 := C20 hD
      have c21 := C21 hD
      have c23 := C23 (n := c)
      rw [if_pos h0, if_pos h0, h0] at c18
      rw [h0] at c12
      rw [shR_ok hD] at c17
      have c22 := C22 (l := (bdK l).l) (m := (bdK l).l) (by have := bestK_len (bdC l) l.length (2 ^ l.length); show (bestK (bdC l) l.length (2 ^ l.length)).l.length < _; omega)
      rw [decide_eq_true rfl] at c22
      have hSn := stT_no (l := l) (r := 40) (c := 1)
      have hSl := stT_len (l := l) (r := 40) (c := 1)
      generalize bdK l = B at *
      generalize hS : stT l 40 1 = S at *
      obtain ⟨T, sb⟩ := S
      simp only at hSn hSl c17 c21
      have c19T := C19 (a := T) (b := T) (by omega)
      rw [decide_eq_true rfl] at c19T
      by_cases hs : (∀ k, k < l.length → win (l.getD k (0, 0, 0)) ≤ 5) ∧ (l.length : Int) ≤ 4
      · rw [decide_eq_true hs] at c13
        by_cases h15 : 15 ≤ c ∧ c ≤ 40
        · refine pi1 fn3 ?_
          (repeat' first | (refine Owe.same ?_; first | refine Owe.o ?_ | refine Owe.mk ?_ ?_) | (refine Fork.same ?_; (first | refine fkY ?_ | refine fkF ?_ | ((first | refine fkD ?_ ?_ | refine fkN ?_ ?_ | refine fkM ?_ ?_) <;> intro h))) | ((first | refine OpsL.same ?_ | refine OpsDL.same ?_); first | refine oK C10 rfl rfl rfl ?_ | refine oK C11 rfl rfl rfl ?_ | refine oK c12 rfl rfl rfl ?_ | refine oK c13 rfl rfl rfl ?_ | refine oK c14 rfl rfl rfl ?_) | refine MvQ.stay ?_)
          (refine rqK rfl ?_; (repeat' first | exact rfl | (refine qS ?_; constructor)))
        by_cases hc : 1 ≤ c ∧ c ≤ 40
        · obtain ⟨n, hn'⟩ : ∃ n : Nat, (n : Int) = c := ⟨c.toNat, by omega⟩
          subst hn'
          have c24 := C24 (c := n) hD ⟨by omega, by omega⟩
          have e0 : cyE (n : Int) = 0 := cyE_ok.2 hc
          rw [e0] at c23
          rw [ftR_ok hD ⟨by omega, by omega⟩] at c15
          have hwl : ∀ o, frR l n = some o → o.length = l.length := fun o h => frR_len h
          obtain ⟨w, hw⟩ : ∃ w, w = frR l n := ⟨_, rfl⟩
          rw [← hw] at c24 c15 hwl
          clear hw
          rcases w with _ | o
          · simp only [frT, Option.isSome_none, Bool.false_eq_true, if_false] at c24 c15
            rcases sb with _ | _
            · have hSn := hSn rfl
              subst hSn
              simp only [Bool.false_eq_true, if_false] at c17
              refine pi1 fn3 ?_
              (repeat' first | (refine Owe.same ?_; first | refine Owe.o ?_ | refine Owe.mk ?_ ?_) | (refine Fork.same ?_; (first | refine fkY ?_ | refine fkF ?_ | ((first | refine fkD ?_ ?_ | refine fkN ?_ ?_ | refine fkM ?_ ?_) <;> intro h))) | ((first | refine OpsL.same ?_ | refine OpsDL.same ?_); first | refine oK C10 rfl rfl rfl ?_ | refine oK C11 rfl rfl rfl ?_ | refine oK c12 rfl rfl rfl ?_ | refine oK c13 rfl rfl rfl ?_ | refine oK c14 rfl rfl rfl ?_ | refine oK c16 rfl rfl rfl ?_ | refine oK c15 rfl rfl rfl ?_ | refine oK c17 rfl rfl rfl ?_ | refine oK c18 rfl rfl rfl ?_ | refine oK c20 rfl rfl rfl ?_ | refine oK c21 rfl rfl rfl ?_ | refine oK c22 rfl rfl rfl ?_ | refine oK c23 rfl rfl rfl ?_ | refine oK c24 rfl rfl rfl ?_) | refine MvQ.stay ?_)
              (repeat' first | (refine Owe.same ?_; first | refine Owe.o ?_ | refine Owe.mk ?_ ?_) | (refine Fork.same ?_; (first | refine fkY ?_ | refine fkF ?_ | ((first | refine fkD ?_ ?_ | refine fkN ?_ ?_ | refine fkM ?_ ?_) <;> intro h))) | ((first | refine OpsL.same ?_ | refine OpsDL.same ?_); first | refine pK c0 rfl rfl ?_ | refine pK c23 rfl rfl ?_ | refine pK c24 rfl rfl ?_) | refine MvQ.stay ?_)
              (repeat' first | (refine Owe.same ?_; first | refine Owe.o ?_ | refine Owe.mk ?_ ?_) | (refine Fork.same ?_; (first | refine fkY ?_ | refine fkF ?_ | ((first | refine fkD ?_ ?_ | refine fkN ?_ ?_ | refine fkM ?_ ?_) <;> intro h))) | ((first | refine OpsL.same ?_ | refine OpsDL.same ?_); first | refine oK C10 rfl rfl rfl ?_) | refine MvQ.stay ?_)
              (refine rqK rfl ?_; (repeat' first | exact rfl | (refine qS ?_; constructor)))
            · simp only [if_true] at c17
              refine pi1 fn3 ?_
              (repeat' first | (refine Owe.same ?_; first | refine Owe.o ?_ | refine Owe.mk ?_ ?_) | (refine Fork.same ?_; (first | refine fkY ?_ | refine fkF ?_ | ((first | refine fkD ?_ ?_ | refine fkN ?_ ?_ | refine fkM ?_ ?_) <;> intro h))) | ((first | refine OpsL.same ?_ | refine OpsDL.same ?_); first | refine oK C10 rfl rfl rfl ?_ | refine oK C11 rfl rfl rfl ?_ | refine oK c12 rfl rfl rfl ?_ | refine oK c13 rfl rfl rfl ?_ | refine oK c14 rfl rfl rfl ?_ | refine oK c16 rfl rfl rfl ?_ | refine oK c15 rfl rfl rfl ?_ | refine oK c17 rfl rfl rfl ?_ | refine oK c18 rfl rfl rfl ?_ | refine oK c20 rfl rfl rfl ?_ | refine oK c21 rfl rfl rfl ?_ | refine oK c22 rfl rfl rfl ?_ | refine oK c19T rfl rfl rfl ?_ | refine oK c23 rfl rfl rfl ?_ | refine oK c24 rfl rfl rfl ?_) | refine MvQ.stay ?_)
              (repeat' first | (refine Owe.same ?_; first | refine Owe.o ?_ | refine Owe.mk ?_ ?_) | (refine Fork.same ?_; (first | refine fkY ?_ | refine fkF ?_ | ((first | refine fkD ?_ ?_ | refine fkN ?_ ?_ | refine fkM ?_ ?_) <;> intro h))) | ((first | refine OpsL.same ?_ | refine OpsDL.same ?_); first | refine pK c0 rfl rfl ?_) | refine MvQ.stay ?_)
              (repeat' first | (refine Owe.same ?_; first | refine Owe.o ?_ | refine Owe.mk ?_ ?_) | (refine Fork.same ?_; (first | refine fkY ?_ | refine fkF ?_ | ((first | refine fkD ?_ ?_ | refine fkN ?_ ?_ | refine fkM ?_ ?_) <;> intro h))) | ((first | refine OpsL.same ?_ | refine OpsDL.same ?_); first | refine oK C10 rfl rfl rfl ?_) | refine MvQ.stay ?_)
              (refine rqK rfl ?_; (repeat' first | exact rfl | (refine qS ?_; constructor)))
          · have hwl := hwl o rfl
            have c19w := C19 (a := ((n : Int), o)) (b := ((n : Int), o)) (show o.length ≤ 1000000 by omega)
            rw [decide_eq_true rfl] at c19w
            simp only [frT, Option.isSome_some, if_true] at c24 c15
            rcases sb with _ | _
            · have hSn := hSn rfl
              subst hSn
              simp only [Bool.false_eq_true, if_false] at c17
              refine pi1 fn3 ?_
              (repeat' first | (refine Owe.same ?_; first | refine Owe.o ?_ | refine Owe.mk ?_ ?_) | (refine Fork.same ?_; (first | refine fkY ?_ | refine fkF ?_ | ((first | refine fkD ?_ ?_ | refine fkN ?_ ?_ | refine fkM ?_ ?_) <;> intro h))) | ((first | refine OpsL.same ?_ | refine OpsDL.same ?_); first | refine oK C10 rfl rfl rfl ?_ | refine oK C11 rfl rfl rfl ?_ | refine oK c12 rfl rfl rfl ?_ | refine oK c13 rfl rfl rfl ?_ | refine oK c14 rfl rfl rfl ?_ | refine oK c16 rfl rfl rfl ?_ | refine oK c15 rfl rfl rfl ?_ | refine oK c17 rfl rfl rfl ?_ | refine oK c18 rfl rfl rfl ?_ | refine oK c20 rfl rfl rfl ?_ | refine oK c21 rfl rfl rfl ?_ | refine oK c22 rfl rfl rfl ?_ | refine oK c23 rfl rfl rfl ?_ | refine oK c24 rfl rfl rfl ?_) | refine MvQ.stay ?_)
              (repeat' first | (refine Owe.same ?_; first | refine Owe.o ?_ | refine Owe.mk ?_ ?_) | (refine Fork.same ?_; (first | refine fkY ?_ | refine fkF ?_ | ((first | refine fkD ?_ ?_ | refine fkN ?_ ?_ | refine fkM ?_ ?_) <;> intro h))) | ((first | refine OpsL.same ?_ | refine OpsDL.same ?_); first | refine pK c0 rfl rfl ?_) | refine MvQ.stay ?_)
              (repeat' first | (refine Owe.same ?_; first | refine Owe.o ?_ | refine Owe.mk ?_ ?_) | (refine Fork.same ?_; (first | refine fkY ?_ | refine fkF ?_ | ((first | refine fkD ?_ ?_ | refine fkN ?_ ?_ | refine fkM ?_ ?_) <;> intro h))) | ((first | refine OpsL.same ?_ | refine OpsDL.same ?_); first | refine oK c23 rfl rfl rfl ?_ | refine oK c24 rfl rfl rfl ?_ | refine oK c19w rfl rfl rfl ?_) | refine MvQ.stay ?_)
              (refine rqK rfl ?_; (repeat' first | exact rfl | (refine qS ?_; constructor)))
            · simp only [if_true] at c17
              refine pi1 fn3 ?_
              (repeat' first | (refine Owe.same ?_; first | refine Owe.o ?_ | refine Owe.mk ?_ ?_) | (refine Fork.same ?_; (first | refine fkY ?_ | refine fkF ?_ | ((first | refine fkD ?_ ?_ | refine fkN ?_ ?_ | refine fkM ?_ ?_) <;> intro h))) | ((first | refine OpsL.same ?_ | refine OpsDL.same ?_); first | refine oK C10 rfl rfl rfl ?_ | refine oK C11 rfl rfl rfl ?_ | refine oK c12 rfl rfl rfl ?_ | refine oK c13 rfl rfl rfl ?_ | refine oK c14 rfl rfl rfl ?_ | refine oK c16 rfl rfl rfl ?_ | refine oK c15 rfl rfl rfl ?_ | refine oK c17 rfl rfl rfl ?_ | refine oK c18 rfl rfl rfl ?_ | refine oK c20 rfl rfl rfl ?_ | refine oK c21 rfl rfl rfl ?_ | refine oK c22 rfl rfl rfl ?_ | refine oK c19T rfl rfl rfl ?_ | refine oK c23 rfl rfl rfl ?_ | refine oK c24 rfl rfl rfl ?_) | refine MvQ.stay ?_)
              (repeat' first | (refine Owe.same ?_; first | refine Owe.o ?_ | refine Owe.mk ?_ ?_) | (refine Fork.same ?_; (first | refine fkY ?_ | refine fkF ?_ | ((first | refine fkD ?_ ?_ | refine fkN ?_ ?_ | refine fkM ?_ ?_) <;> intro h))) | ((first | refine OpsL.same ?_ | refine OpsDL.same ?_); first | refine oK c19w rfl rfl rfl ?_) | refine MvQ.stay ?_)
              (refine rqK rfl ?_; (repeat' first | exact rfl | (refine qS ?_; constructor)))
        · have e2 : cyE c = 2 := by rw [cyE, unl, decide_eq_false hc]; rfl
          have hf : ftR l c = ((0, []), 2) := by
            have e : fstE [(dvsE l).2, cyE c] = 2 := by rw [h0, e2]; decide
            rw [ftR, e, if_neg (by decide)]
          rw [hf] at c15
          rw [e2] at c23
          rcases sb with _ | _
          · have hSn := hSn rfl
            subst hSn
            simp only [Bool.false_eq_true, if_false] at c17
            refine pi1 fn3 ?_
            (repeat' first | (refine Owe.same ?_; first | refine Owe.o ?_ | refine Owe.mk ?_ ?_) | (refine Fork.same ?_; (first | refine fkY ?_ | refine fkF ?_ | ((first | refine fkD ?_ ?_ | refine fkN ?_ ?_ | refine fkM ?_ ?_) <;> intro h))) | ((first | refine OpsL.same ?_ | refine OpsDL.same ?_); first | refine oK C10 rfl rfl rfl ?_ | refine oK C11 rfl rfl rfl ?_ | refine oK c12 rfl rfl rfl ?_ | refine oK c13 rfl rfl rfl ?_ | refine oK c14 rfl rfl rfl ?_ | refine oK c16 rfl rfl rfl ?_ | refine oK c15 rfl rfl rfl ?_ | refine oK c17 rfl rfl rfl ?_ | refine oK c18 rfl rfl rfl ?_ | refine oK c20 rfl rfl rfl ?_ | refine oK c21 rfl rfl rfl ?_ | refine oK c22 rfl rfl rfl ?_ | refine oK c23 rfl rfl rfl ?_) | refine MvQ.stay ?_)
            (repeat' first | (refine Owe.same ?_; first | refine Owe.o ?_ | refine Owe.mk ?_ ?_) | (refine Fork.same ?_; (first | refine fkY ?_ | refine fkF ?_ | ((first | refine fkD ?_ ?_ | refine fkN ?_ ?_ | refine fkM ?_ ?_) <;> intro h))) | ((first | refine OpsL.same ?_ | refine OpsDL.same ?_); first | refine pK c0 rfl rfl ?_ | refine pK c23 rfl rfl ?_) | refine MvQ.stay ?_)
            (repeat' first | (refine Owe.same ?_; first | refine Owe.o ?_ | refine Owe.mk ?_ ?_) | (refine Fork.same ?_; (first | refine fkY ?_ | refine fkF ?_ | ((first | refine fkD ?_ ?_ | refine fkN ?_ ?_ | refine fkM ?_ ?_) <;> intro h))) | ((first | refine OpsL.same ?_ | refine OpsDL.same ?_); first | refine oK C10 rfl rfl rfl ?_) | refine MvQ.stay ?_)
            (refine rqK rfl ?_; (repeat' first | exact rfl | (refine qS ?_; constructor)))
            all_goals first | rfl | simp
          · simp only [if_true] at c17
            refine pi1 fn3 ?_
            (repeat' first | (refine Owe.same ?_; first | refine Owe.o ?_ | refine Owe.mk ?_ ?_) | (refine Fork.same ?_; (first | refine fkY ?_ | refine fkF ?_ | ((first | refine fkD ?_ ?_ | refine fkN ?_ ?_ | refine fkM ?_ ?_) <;> intro h))) | ((first | refine OpsL.same ?_ | refine OpsDL.same ?_); first | refine oK C10 rfl rfl rfl ?_ | refine oK C11 rfl rfl rfl ?_ | refine oK c12 rfl rfl rfl ?_ | refine oK c13 rfl rfl rfl ?_ | refine oK c14 rfl rfl rfl ?_ | refine oK c16 rfl rfl rfl ?_ | refine oK c15 rfl rfl rfl ?_ | refine oK c17 rfl rfl rfl ?_ | refine oK c18 rfl rfl rfl ?_ | refine oK c20 rfl rfl rfl ?_ | refine oK c21 rfl rfl rfl ?_ | refine oK c22 rfl rfl rfl ?_ | refine oK c19T rfl rfl rfl ?_ | refine oK c23 rfl rfl rfl ?_) | refine MvQ.stay ?_)
            (repeat' first | (refine Owe.same ?_; first | refine Owe.o ?_ | refine Owe.mk ?_ ?_) | (refine Fork.same ?_; (first | refine fkY ?_ | refine fkF ?_ | ((first | refine fkD ?_ ?_ | refine fkN ?_ ?_ | refine fkM ?_ ?_) <;> intro h))) | ((first | refine OpsL.same ?_ | refine OpsDL.same ?_); first | refine pK c0 rfl rfl ?_) | refine MvQ.stay ?_)
            (repeat' first | (refine Owe.same ?_; first | refine Owe.o ?_ | refine Owe.mk ?_ ?_) | (refine Fork.same ?_; (first | refine fkY ?_ | refine fkF ?_ | ((first | refine fkD ?_ ?_ | refine fkN ?_ ?_ | refine fkM ?_ ?_) <;> intro h))) | ((first | refine OpsL.same ?_ | refine OpsDL.same ?_); first | refine oK C10 rfl rfl rfl ?_) | refine MvQ.stay ?_)
            (refine rqK rfl ?_; (repeat' first | exact rfl | (refine qS ?_; constructor)))
            all_goals first | rfl | simp
      · rw [decide_eq_false hs] at c13
        refine pi1 fn3 ?_
        (repeat' first | (refine Owe.same ?_; first | refine Owe.o ?_ | refine Owe.mk ?_ ?_) | (refine Fork.same ?_; (first | refine fkY ?_ | refine fkF ?_ | ((first | refine fkD ?_ ?_ | refine fkN ?_ ?_ | refine fkM ?_ ?_) <;> intro h))) | ((first | refine OpsL.same ?_ | refine OpsDL.same ?_); first | refine oK C10 rfl rfl rfl ?_ | refine oK C11 rfl rfl rfl ?_ | refine oK c12 rfl rfl rfl ?_ | refine oK c13 rfl rfl rfl ?_) | refine MvQ.stay ?_)
        (refine rqK rfl ?_; (repeat' first | exact rfl | (refine qS ?_; constructor)))
    · rw [if_neg h0, if_neg h0] at c18
      rw [shR, if_neg h0] at c17
      have hf : ftR l c = ((0, []), (dvsE l).2) := by
        have e : fstE [(dvsE l).2, cyE c] = (dvsE l).2 := fst_c h0
        rw [ftR, e, if_neg h0]
      rw [hf] at c15
      generalize (dvsE l).2 = e at *
      refine pi1 fn3 ?_
      (repeat' first | (refine Owe.same ?_; first | refine Owe.o ?_ | refine Owe.mk ?_ ?_) | (refine Fork.same ?_; (first | refine fkY ?_ | refine fkF ?_ | ((first | refine fkD ?_ ?_ | refine fkN ?_ ?_ | refine fkM ?_ ?_) <;> intro h))) | ((first | refine OpsL.same ?_ | refine OpsDL.same ?_); first | refine oK C10 rfl rfl rfl ?_ | refine oK C11 rfl rfl rfl ?_ | refine oK c12 rfl rfl rfl ?_ | refine oK c14 rfl rfl rfl ?_ | refine oK c16 rfl rfl rfl ?_ | refine oK c15 rfl rfl rfl ?_ | refine oK c17 rfl rfl rfl ?_ | refine oK c18 rfl rfl rfl ?_) | refine MvQ.stay ?_)
      · (refine rqK rfl ?_; (repeat' first | exact rfl | (refine qS ?_; constructor)))
      · (repeat' first | (refine Owe.same ?_; first | refine Owe.o ?_ | refine Owe.mk ?_ ?_) | (refine Fork.same ?_; (first | refine fkY ?_ | refine fkF ?_ | ((first | refine fkD ?_ ?_ | refine fkN ?_ ?_ | refine fkM ?_ ?_) <;> intro h))) | ((first | refine OpsL.same ?_ | refine OpsDL.same ?_); first | refine pK c0 rfl rfl ?_) | refine MvQ.stay ?_)
        (refine rqK rfl ?_; (repeat' first | exact rfl | (refine qS ?_; constructor)))
        all_goals first | rfl | simp
  · refine pi1 fn3 ?_
    (repeat' first | (refine Owe.same ?_; first | refine Owe.o ?_ | refine Owe.mk ?_ ?_) | (refine Fork.same ?_; (first | refine fkY ?_ | refine fkF ?_ | ((first | refine fkD ?_ ?_ | refine fkN ?_ ?_ | refine fkM ?_ ?_) <;> intro h))) | ((first | refine OpsL.same ?_ | refine OpsDL.same ?_); first | refine oK C10 rfl rfl rfl ?_ | refine oK C11 rfl rfl rfl ?_) | refine MvQ.stay ?_)
    (refine rqK rfl ?_; (repeat' first | exact rfl | (refine qS ?_; constructor)))
end Go.Pw

namespace Go.Proofs.YtbgikbenhglmkaaGreat
open Go.ChangeShapes Go.WideShapes Go.ChangeAt Go.RowKit Go.Pw
theorem Tryz.own : ownKnob Tryz.prog.godebug = none := by kernel_rfl
theorem Tryz.laidOut : laidOutB Tryz.prog = true := by kernel_rfl
theorem shapes : shAll Tryz.prog [22, 3] = some [(false, [.sl [.int .i64, .int .i64, .int .i64]]), (false, [.int .i64])] := by kernel_rfl
theorem law (args : List V) (h : ArgOk [(false, [.sl [.int .i64, .int .i64, .int .i64]]), (false, [.int .i64])] args) : PFD Tryz.prog 3 args (vbl true) := by
  match args, h with
  | [v0, v1], ⟨h0, h1, _⟩ =>
    obtain ⟨l0, r0, q0⟩ := arg_trs h0
    obtain ⟨l1, rfl, q1⟩ := arg_int h1
    exact PFD.ri C3 (.cons r0 (.cons (RI.refl _) .nil))
set_option maxRecDepth 100000 in
theorem lifted (os : Os) (started : os.Started) (H : Type) (enc : TypeId × Value → H) :
    ReturnsInHanded {} Tryz.checked os 3 .any (Rows.sonarShortestSpec.pre6 enc Tryz.prog Tryz.f3 Rows.sonarShortestRow.domain false) (Rows.sonarShortestSpec.post enc Tryz.prog Tryz.f3 false true false false) := by
  refine returnsInHanded_of_change (C := Tryz.checked) Tryz.own started (by kernel_rfl) Tryz.func3
    (ChangeSpec.witness6 (enc := enc) (C := Tryz.checked) false ⟨#[], #[.slice none 0 0, .int .i64 0], []⟩ 8 (by kernel_rfl) (by kernel_rfl) (by kernel_rfl) (by kernel_rfl)) ?_
  intro W base args ds gs before hval0 hW hcnd _
  exact law_calls (P := Tryz.prog) (F := Tryz.f3) (tb := 4) Tryz.laidOut (by rw [Tryz.params3]; exact shapes) rfl (fun ds hl => by
    rw [Tryz.params3] at hl
    match ds, hl with
    | [d0, d1], _ => rfl) (by kernel_rfl) Tryz.underlying4 law W base args ds gs before hval0 hW
theorem row_holds : Rows.SonarShortestSaid :=
  OpenClaim.holds_of_wide 3 Tryz.f3 rfl rfl rfl rfl rfl rfl rfl ⟨rfl, rfl, rfl, rfl, rfl⟩ rfl rfl rfl rfl rfl (by kernel_rfl) Tryz.func3 (by kernel_rfl)
    (of_decide_eq_true (by kernel_rfl)) (by unfold Func.isWrapper; rw [if_neg (by decide +kernel)]; exact ⟨rfl, rfl⟩)
    (fun os started H enc _ => lifted os started H enc)
end Go.Proofs.YtbgikbenhglmkaaGreat
