/- Proved here at the end: the row named in the last theorem, on no condition. -/
import Derived.Test.YtbgikbenhglmkaaGreatSonarNoneBlindD
import Derived.Test.YtbgikbenhglmkaaGreatProg
import Derived.Test.YtbgikbenhglmkaaGreatRows
set_option linter.unusedSimpArgs false
set_option linter.unusedVariables false
namespace Go.Pw
set_option maxRecDepth 2000
open Go Go.Proofs A1 A2 A3 A4
theorem C86 {g : FuncId} {rows : List (List D)} {f : Int → Int} (hg : ∀ (i : Int) (x : Int), PFD Tryz.prog g (vi .i64 i :: vi .i64 x :: rows.map fun r => .c (.rp r)) (vi .i64 (f x))) {l : List Int} : l.length ≤ 1000000 → PFD Tryz.prog 86 [.c (ints l), .c (.fnR g rows)] (.tup [vi .i64 (eachE f 0 l).1, vi .i64 (eachE f 0 l).2]) := fun hl => by
  refine pi2 fn86 ?_
  (repeat' first | (refine Owe.same ?_; first | refine Owe.o ?_ | refine Owe.mk ?_ ?_) | (refine Fork.same ?_; (first | refine fkD ?_ ?_ | refine fkN ?_ ?_ | refine fkM ?_ ?_) <;> intro h) | refine MvQ.stay ?_)
  refine Sat.lp0 (fun k : Nat => [(11, vi .i64 k), (10, vi .i64 l.length), (9, .c (ints l)), (1, .c (.fnR g rows))]) (fun k => k ≤ l.length ∧ eachE f 0 l = eachE f k (l.drop k)) (fun k => l.length - k) 0 ⟨Nat.zero_le _, rfl⟩ (by ((first | refine qen ?_ | refine qvs ?_ | refine qeq ?_ | refine qst ?_ | refine qv ?_ | refine qc ?_ | refine qe ?_ | refine qcs ?_ | skip); (repeat' first | exact rfl | (refine qS ?_; constructor)))) ?_
  intro k hk
  (repeat' first | (refine Owe.same ?_; first | refine Owe.o ?_ | refine Owe.mk ?_ ?_) | (refine Fork.same ?_; (first | refine fkD ?_ ?_ | refine fkN ?_ ?_ | refine fkM ?_ ?_) <;> intro h) | ((first | refine OpsL.same ?_ | refine OpsDL.same ?_); first | refine pR (hg _ (l.getD k 0)) rfl rfl ?_) | refine MvQ.stay ?_)
  · have e := eachE_drop f 0 l k (by omega)
    have h : ¬ f (l.getD k 0) = 0 := h
    rw [if_neg h, ← hk.2] at e
    (refine rqK rfl ?_; (repeat' first | exact rfl | (refine qS ?_; constructor))) <;> rw [e]
  · have e := eachE_drop f 0 l k (by omega)
    have h : f (l.getD k 0) = 0 := h
    rw [if_pos h, ← hk.2] at e
    exact again0 (k + 1) ⟨by omega, e⟩ (by omega) (by ((first | refine qen ?_ | refine qvs ?_ | refine qeq ?_ | refine qst ?_ | refine qv ?_ | refine qc ?_ | refine qe ?_ | refine qcs ?_ | skip); (repeat' first | exact rfl | (refine qS ?_; constructor))))
  · have e : eachE f 0 l = (0, 0) := by rw [hk.2, List.drop_of_length_le (by omega)]; rfl
    (refine rqK rfl ?_; (repeat' first | exact rfl | (refine qS ?_; constructor))) <;> rw [e]
def stE (c x : Int) : Int := unl (0 ≤ x ∧ x ≤ c - 1) 2
theorem C87 {i x c : Int} {d : D} : (1 ≤ c ∧ c ≤ 40) → PFD Tryz.prog 87 [vi .i64 i, vi .i64 x, .c (.rp [dI c, d])] (vi .i64 (stE c x)) := fun hc => by
  refine pi1 fn87 ?_
  (repeat' first | (refine Owe.same ?_; first | refine Owe.o ?_ | refine Owe.mk ?_ ?_) | (refine Fork.same ?_; (first | refine fkD ?_ ?_ | refine fkN ?_ ?_ | refine fkM ?_ ?_) <;> intro h) | ((first | refine OpsL.same ?_ | refine OpsDL.same ?_); first | refine pK C84 rfl rfl ?_ | refine pK C85 rfl rfl ?_) | refine MvQ.stay ?_)
  (refine rqK rfl ?_; (repeat' first | exact rfl | (refine qS ?_; constructor)))
/-- The error of turns of devices. -/
def biE (l : List Dv) (t : Tn) : Int := if fstE [(dvsE l).2, cyE t.1, unl ((t.2.length : Int) = l.length) 10] = 0 then (eachE (stE t.1) 0 t.2).2 else fstE [(dvsE l).2, cyE t.1, unl ((t.2.length : Int) = l.length) 10]
theorem each2 {f : Int → Int} (hf : ∀ x, f x = 0 ∨ f x = 2) : ∀ {l : List Int} {i : Nat}, (∃ x ∈ l, ¬ f x = 0) → (eachE f i l).2 = 2 := fun {l i} ⟨x, hx, h⟩ => by
  have h2 : ∀ (l : List Int) (i : Nat), (eachE f i l).2 = 0 ∨ (eachE f i l).2 = 2 := fun l => by
    induction l with
    | nil => intro i; left; rfl
    | cons y l ih =>
      intro i
      rw [eachE]
      split
      · exact ih _
      · exact hf y
  rcases h2 l i with h0 | h0
  · exact absurd (eachE_ok.1 h0 x hx) h
  · exact h0
theorem stE_02 (c x : Int) : stE c x = 0 ∨ stE c x = 2 := by rw [stE, unl_eq]; split <;> simp
theorem biE_ok {l : List Dv} {t : Tn} : biE l t = 0 ↔ TnOk l t := by
  constructor
  · intro h
    by_cases h0 : fstE [(dvsE l).2, cyE t.1, unl ((t.2.length : Int) = l.length) 10] = 0
    · rw [biE, if_pos h0] at h
      rw [fst0, fst0, fst0] at h0
      have h1 := dvsE_ok.1 h0.1
      have h2 := (unl0 (by decide)).1 h0.2.1
      have h3 := (unl0 (by decide)).1 h0.2.2.1
      refine ⟨h1, by omega, by omega, fun i hi => ?_⟩
      have := (unl0 (by decide)).1 (eachE_ok.1 h _ (getD_mem 0 hi))
      omega
    · rw [biE, if_neg h0] at h; exact absurd h h0
  · intro h
    have h0 : fstE [(dvsE l).2, cyE t.1, unl ((t.2.length : Int) = l.length) 10] = 0 := by
      rw [fst0, fst0, fst0]
      have := h.c; have := h.n
      exact ⟨dvsE_ok.2 h.d, (unl0 (by decide)).2 (by omega), (unl0 (by decide)).2 (by omega), rfl⟩
    rw [biE, if_pos h0]
    refine eachE_ok.2 fun x hx => ?_
    obtain ⟨i, hi, rfl⟩ := List.getElem_of_mem hx
    have := h.s i hi
    rw [List.getD_eq_getElem?_getD, List.getElem?_eq_getElem hi, Option.getD_some] at this
    exact (unl0 (by decide)).2 (by omega)
/-- What is said of turns. -/
def biV : Option (Nat × Nat) → Pr × Int
  | some p => (((p.1 : Int), (p.2 : Int)), 0)
  | none => ((0, 0), 12)
def biR (l : List Dv) (t : Tn) : Pr × Int := if biE l t = 0 then biV (prB l t) else ((0, 0), biE l t)
theorem C26 {l : List Dv} {t : Tn} : (l.length ≤ 1000000 ∧ t.2.length ≤ 1000000) → PFD Tryz.prog 26 [.c (trs l), tv t] (.tup [pr (biR l t).1, vi .i64 (biR l t).2]) := fun ⟨hl, htl⟩ => by
  have c72 := C72 hl
  by_cases h0 : fstE [(dvsE l).2, cyE t.1, unl ((t.2.length : Int) = l.length) 10] = 0
  · have hcy : 1 ≤ t.1 ∧ t.1 ≤ 40 := by
      rw [fst0, fst0] at h0
      exact (unl0 (by decide)).1 h0.2.1
    have c86 := C86 (g := 87) (rows := [[dI t.1, .sl 1 t.2.length fun i => r1 (t.2.getD i 0)]]) (f := stE t.1) (fun i x => C87 (d := .sl 1 t.2.length fun i => r1 (t.2.getD i 0)) hcy) (l := t.2) htl
    by_cases h1 : biE l t = 0
    · have hO := biE_ok.1 h1
      have he : (eachE (stE t.1) 0 t.2).2 = 0 := by rw [biE, if_pos h0] at h1; exact h1
      rw [he] at c86
      generalize (eachE (stE t.1) 0 t.2).1 = e1 at *
      obtain ⟨q, hq⟩ : ∃ q, q = prB l t := ⟨_, rfl⟩
      have hr : biR l t = biV q := by rw [biR, if_pos h1, hq]
      rw [hr]
      have h5 := hO.d.n
      have hD := hO.d; have hn := hO.n; have hs := hO.s; have hc := hO.c
      obtain ⟨c, st⟩ := t
      simp only at hn hs hc
      refine pi2 fn26 ?_
      (repeat' first | (refine Owe.same ?_; first | refine Owe.o ?_ | refine Owe.mk ?_ ?_) | (refine Fork.same ?_; (first | refine fkD ?_ ?_ | refine fkN ?_ ?_ | refine fkM ?_ ?_) <;> intro h) | ((first | refine OpsL.same ?_ | refine OpsDL.same ?_); first | refine pK c72 rfl rfl ?_ | refine pK C73 rfl rfl ?_ | refine pK C85 rfl rfl ?_ | refine pK C71 rfl rfl ?_) | refine MvQ.stay ?_)
      · exact absurd h0 h
      (repeat' first | (refine Owe.same ?_; first | refine Owe.o ?_ | refine Owe.mk ?_ ?_) | (refine Fork.same ?_; (first | refine fkY ?_ | refine fkF ?_ | ((first | refine fkD ?_ ?_ | refine fkN ?_ ?_ | refine fkM ?_ ?_) <;> intro h))) | ((first | refine OpsL.same ?_ | refine OpsDL.same ?_); first | refine pK c86 rfl rfl ?_) | refine MvQ.stay ?_)
      refine Sat.lp (fun i : Nat => ⟨[(42, vi .i64 i), (41, vi .i64 l.length), (0, .c (trs l)), (3, .c (.rp [dI c, .sl 1 st.length fun i => r1 (st.getD i 0)])), (4, .c (.bp 0 0))], [(0, .box [int 0, int 0])], 1⟩)
        (fun i => i ≤ l.length ∧ q = prR (fun i k => blB l st i k c) l.length (l.length - i)) (fun i => l.length - i) 0 [0] ⟨Nat.zero_le _, hq⟩ ?_ ?_
      · (refine qis ?_ ?_ <;> (repeat' first | exact rfl | (refine qS ?_; constructor)))
      · intro i hi
        refine Fork.dec (fun hlt => ?_) (fun hlt => ?_)
        · have hlt : i < l.length := by omega
          (repeat' first | (refine Owe.same ?_; first | refine Owe.o ?_ | refine Owe.mk ?_ ?_) | (refine Fork.same ?_; (first | refine fkD ?_ ?_ | refine fkN ?_ ?_ | refine fkM ?_ ?_) <;> intro h) | refine MvQ.stay ?_)
          refine Sat.lp (fun k : Nat => ⟨[(10, vi .i64 k), (9, vi .i64 i), (42, vi .i64 i), (41, vi .i64 l.length), (0, .c (trs l)), (3, .c (.rp [dI c, .sl 1 st.length fun i => r1 (st.getD i 0)])), (4, .c (.bp 0 0))], [(0, .box [int 0, int 0])], 1⟩)
            (fun k => (i ≤ k ∧ k ≤ l.length) ∧ fstK (fun k => blB l st i k c) l.length (l.length - i) = fstK (fun k => blB l st i k c) l.length (l.length - k)) (fun k => l.length - k) i [0] ⟨⟨Nat.le_refl _, by omega⟩, rfl⟩ ?_ ?_
          · (refine qis ?_ ?_ <;> (repeat' first | exact rfl | (refine qS ?_; constructor)))
          · intro k hk
            refine Fork.dec (fun hlk => ?_) (fun hlk => ?_)
            · have hlk : k < l.length := by omega
              have hy : blB l st i k c = true → q = some (i, k) := fun h => by
                rw [hi.2]
                exact prR_t hlt (hk.2.trans (fstK_t (f := fun k => blB l st i k c) hlk h))
              have hno : blB l st i k c = false → fstK (fun k => blB l st i k c) l.length (l.length - i) = fstK (fun k => blB l st i k c) l.length (l.length - (k + 1)) := fun h => hk.2.trans (fstK_f (f := fun k => blB l st i k c) hlk h)
              have c88 := C88 (l := l) (st := st) (i := i) (k := k) (c := c) ⟨hD, hc, hs, ⟨hlt, hlk⟩, by omega, by omega⟩
              generalize blB l st i k c = b at *
              (repeat' first | (refine Owe.same ?_; first | refine Owe.o ?_ | refine Owe.mk ?_ ?_) | (refine Fork.same ?_; (first | refine fkD ?_ ?_ | refine fkN ?_ ?_ | refine fkM ?_ ?_) <;> intro h) | ((first | refine OpsL.same ?_ | refine OpsDL.same ?_); first | refine pK c88 rfl rfl ?_) | refine MvQ.stay ?_)
              · rw [hy h]
                (refine rqK rfl ?_; (repeat' first | exact rfl | (refine qS ?_; constructor)))
              · refine again (k + 1) [0] ⟨⟨by omega, hlk⟩, hno h⟩ (by omega) ?_
                (refine qis ?_ ?_ <;> (repeat' first | exact rfl | (refine qS ?_; constructor)))
            · have : k = l.length := by omega
              subst this
              have hno := prR_f (f := fun i k => blB l st i k c) hlt (hk.2.trans (by rw [Nat.sub_self]; rfl))
              (repeat' first | (refine Owe.same ?_; first | refine Owe.o ?_ | refine Owe.mk ?_ ?_) | (refine Fork.same ?_; (first | refine fkD ?_ ?_ | refine fkN ?_ ?_ | refine fkM ?_ ?_) <;> intro h) | refine MvQ.stay ?_)
              refine again (i + 1) [0] ⟨hlt, hi.2.trans hno⟩ (by omega) ?_
              (refine qis ?_ ?_ <;> (repeat' first | exact rfl | (refine qS ?_; constructor)))
        · have : i = l.length := by omega
          subst this
          have : q = none := by rw [hi.2, Nat.sub_self]; rfl
          rw [this]
          (repeat' first | (refine Owe.same ?_; first | refine Owe.o ?_ | refine Owe.mk ?_ ?_) | (refine Fork.same ?_; (first | refine fkD ?_ ?_ | refine fkN ?_ ?_ | refine fkM ?_ ?_) <;> intro h) | refine MvQ.stay ?_)
          (refine rqK rfl ?_; (repeat' first | exact rfl | (refine qS ?_; constructor)))
    · have he : biE l t = (eachE (stE t.1) 0 t.2).2 := by rw [biE, if_pos h0]
      rw [biR, if_neg h1, he]
      rw [he] at h1
      refine pi2 fn26 ?_
      (repeat' first | (refine Owe.same ?_; first | refine Owe.o ?_ | refine Owe.mk ?_ ?_) | (refine Fork.same ?_; (first | refine fkD ?_ ?_ | refine fkN ?_ ?_ | refine fkM ?_ ?_) <;> intro h) | ((first | refine OpsL.same ?_ | refine OpsDL.same ?_); first | refine pK c72 rfl rfl ?_ | refine pK C73 rfl rfl ?_ | refine pK C85 rfl rfl ?_ | refine pK C71 rfl rfl ?_) | refine MvQ.stay ?_)
      · exact absurd h0 h
      (repeat' first | (refine Owe.same ?_; first | refine Owe.o ?_ | refine Owe.mk ?_ ?_) | (refine Fork.same ?_; (first | refine fkD ?_ ?_ | refine fkN ?_ ?_ | refine fkM ?_ ?_) <;> intro h) | ((first | refine OpsL.same ?_ | refine OpsDL.same ?_); first | refine pK c86 rfl rfl ?_) | refine MvQ.stay ?_)
      · (refine rqK rfl ?_; (repeat' first | exact rfl | (refine qS ?_; constructor)))
      · exact absurd h h1
  · have he : biE l t = fstE [(dvsE l).2, cyE t.1, unl ((t.2.length : Int) = l.length) 10] := by rw [biE, if_neg h0]
    rw [biR, he, if_neg h0]
    refine pi2 fn26 ?_
    (repeat' first | (refine Owe.same ?_; first | refine Owe.o ?_ | refine Owe.mk ?_ ?_) | (refine Fork.same ?_; (first | refine fkD ?_ ?_ | refine fkN ?_ ?_ | refine fkM ?_ ?_) <;> intro h) | ((first | refine OpsL.same ?_ | refine OpsDL.same ?_); first | refine pK c72 rfl rfl ?_ | refine pK C73 rfl rfl ?_ | refine pK C85 rfl rfl ?_ | refine pK C71 rfl rfl ?_) | refine MvQ.stay ?_)
    · (refine rqK rfl ?_; (repeat' first | exact rfl | (refine qS ?_; constructor)))
    · exact absurd h h0
end Go.Pw

set_option linter.unusedSimpArgs false
set_option linter.unusedVariables false
namespace Go.Pw
set_option maxRecDepth 2000
open Go Go.Proofs A1 A2 A3 A4
/-- A pair that blinds each other. -/
abbrev bpB (l : List Dv) (st : List Int) (i k : Nat) (c : Int) : Bool := dist (l.getD i (0, 0, 0)) (l.getD k (0, 0, 0)) && mtB (l.getD i (0, 0, 0)) (l.getD k (0, 0, 0)) (st.getD i 0) (st.getD k 0) c
/-- A device that is placed blinds none before it. -/
def freB (l : List Dv) (st : List Int) (k : Nat) (s c : Int) : Bool := (List.range k).all fun i => !(dist (l.getD i (0, 0, 0)) (l.getD k (0, 0, 0)) && mtB (l.getD i (0, 0, 0)) (l.getD k (0, 0, 0)) (st.getD i 0) s c)
/-- The first starts that begin with some, as the document looks for them: so many starts from one on. -/
def tryG (g : Nat → Option (List Int)) : Nat → Nat → Option (List Int)
  | 0, _ => none
  | r + 1, n => match g n with
    | none => tryG g r (n + 1)
    | some o => some o
def grS (l : List Dv) (c : Nat) : Nat → List Int → Option (List Int)
  | 0, st => some st
  | f + 1, st => tryG (fun n => if freB l st st.length n c = true then grS l c f (st ++ [(n : Int)]) else none) c 0
theorem tryG_some {g : Nat → Option (List Int)} {o : List Int} : ∀ {r n : Nat}, tryG g r n = some o → ∃ m, n ≤ m ∧ m < n + r ∧ g m = some o ∧ ∀ j, n ≤ j → j < m → g j = none
  | 0, n, h => by cases h
  | r + 1, n, h => by
    rw [tryG] at h
    split at h
    · rename_i hn
      obtain ⟨m, h1, h2, h3, h4⟩ := tryG_some h
      refine ⟨m, by omega, by omega, h3, fun j hj1 hj2 => ?_⟩
      rcases Nat.lt_or_eq_of_le hj1 with h5 | rfl
      · exact h4 j h5 hj2
      · exact hn
    · rename_i q hq
      cases h
      exact ⟨n, Nat.le_refl _, by omega, hq, fun j h1 h2 => absurd h1 (by omega)⟩
theorem tryG_none {g : Nat → Option (List Int)} : ∀ {r n : Nat}, tryG g r n = none ↔ ∀ m, n ≤ m → m < n + r → g m = none
  | 0, n => ⟨fun _ m h1 h2 => absurd h2 (by omega), fun _ => rfl⟩
  | r + 1, n => by
    rw [tryG]
    split
    · rename_i hn
      rw [tryG_none]
      constructor
      · intro h m h1 h2
        rcases Nat.lt_or_eq_of_le h1 with h5 | rfl
        · exact h m (by omega) (by omega)
        · exact hn
      · intro h m h1 h2; exact h m (by omega) (by omega)
    · rename_i q hq
      constructor
      · intro h; cases h
      · intro h; rw [h n (Nat.le_refl _) (by omega)] at hq; cases hq
/-- The meeting of windows says nothing but how far apart they begin. -/
theorem mtB_shift {a b : Dv} {s t c n : Int} (hc : 0 < c) : mtB a b ((s - n) % c) ((t - n) % c) c = mtB a b s t c := by
  have e : ((t - n) % c - (s - n) % c + c) % c = (t - s + c) % c := by
    rw [Int.add_emod_right, Int.add_emod_right, ← Int.sub_emod]
    congr 1; omega
  rw [mtB, mtB, e]
theorem getD_app {st : List Int} {a : Int} {i : Nat} : (st ++ [a]).getD i 0 = if i < st.length then st.getD i 0 else if i = st.length then a else 0 := by
  simp only [List.getD_eq_getElem?_getD]
  split
  · rename_i h; rw [List.getElem?_append_left h]
  · rename_i h
    rw [List.getElem?_append_right (by omega)]
    split
    · rename_i h2; subst h2; simp
    · rename_i h2
      rw [List.getElem?_eq_none (by simp; omega)]; rfl
theorem fre_iff {l : List Dv} {st o : List Int} {k : Nat} {s c : Int} (hp : ∀ i, i < k → o.getD i 0 = st.getD i 0) (hk : o.getD k 0 = s) : freB l st k s c = true ↔ ∀ i, i < k → bpB l o i k c = false := by
  rw [freB, List.all_eq_true]
  constructor
  · intro h i hi
    have := h i (List.mem_range.2 hi)
    rw [bpB, hp i hi, hk]
    simpa only [Bool.not_eq_true'] using this
  · intro h i hi
    have hi := List.mem_range.1 hi
    have := h i hi
    rw [bpB, hp i hi, hk] at this
    rw [this]; rfl
theorem grS_sound {l : List Dv} {c : Nat} : ∀ {f : Nat} {st o : List Int}, grS l c f st = some o → o.length = st.length + f ∧ (∀ i, i < st.length → o.getD i 0 = st.getD i 0) ∧ (stOk st c → stOk o c) ∧ ∀ k, st.length ≤ k → k < o.length → ∀ i, i < k → bpB l o i k c = false
  | 0, st, o, h => by
    rw [grS] at h; cases h
    exact ⟨rfl, fun _ _ => rfl, fun h => h, fun k h1 h2 => absurd h1 (by omega)⟩
  | f + 1, st, o, h => by
    rw [grS] at h
    obtain ⟨m, _, hm, hg, _⟩ := tryG_some h
    split at hg
    · rename_i hf
      obtain ⟨h1, h2, h3, h4⟩ := grS_sound hg
      rw [List.length_append, List.length_singleton] at h1 h2 h4
      have hpre : ∀ i, i < st.length → o.getD i 0 = st.getD i 0 := fun i hi => by
        rw [h2 i (by omega), getD_app, if_pos hi]
      have hat : o.getD st.length 0 = m := by
        rw [h2 st.length (by omega), getD_app, if_neg (by omega), if_pos rfl]
      refine ⟨by omega, hpre, fun h => h3 (stOk_app h ⟨by omega, by omega⟩), fun k hk1 hk2 => ?_⟩
      rcases Nat.lt_or_eq_of_le hk1 with h5 | rfl
      · exact h4 k (by omega) hk2
      · exact (fre_iff hpre hat).1 hf
    · cases hg
theorem grS_none {l : List Dv} {c : Nat} : ∀ {f : Nat} {st : List Int}, grS l c f st = none → ∀ o : List Int, o.length = st.length + f → (∀ i, i < st.length → o.getD i 0 = st.getD i 0) → stOk o c → (∀ k, st.length ≤ k → k < o.length → ∀ i, i < k → bpB l o i k c = false) → False
  | 0, st, h, _, _, _, _, _ => by rw [grS] at h; cases h
  | f + 1, st, h, o, h1, h2, h3, h4 => by
    rw [grS] at h
    have hk : st.length < o.length := by omega
    have hb := h3 st.length hk
    have hm := tryG_none.1 h (o.getD st.length 0).toNat (Nat.zero_le _) (by omega)
    have hat : o.getD st.length 0 = (((o.getD st.length 0).toNat : Nat) : Int) := by omega
    rw [if_pos ((fre_iff h2 hat).2 (h4 st.length (Nat.le_refl _) hk))] at hm
    refine grS_none hm o (by rw [List.length_append, List.length_singleton]; omega) (fun i hi => ?_) h3 (fun k hk1 hk2 => ?_)
    · rw [List.length_append, List.length_singleton] at hi
      rw [getD_app]
      split
      · rename_i h5; exact h2 i h5
      · have : i = st.length := by omega
        subst this
        rw [if_pos rfl]; exact hat
    · rw [List.length_append, List.length_singleton] at hk1
      exact h4 k (by omega) hk2
/-- No starts with one first: none with another. -/
theorem grS_turn {l : List Dv} {c f : Nat} (hc : 0 < c) (h : grS l c f [0] = none) (n : Nat) (hn : n < c) : grS l c f [(n : Int)] = none := by
  cases hg : grS l c f [(n : Int)] with
  | none => rfl
  | some o =>
    exfalso
    obtain ⟨h1, h2, h3, h4⟩ := grS_sound hg
    have hst : stOk [(n : Int)] c := fun i hi => by
      have : i = 0 := by simp at hi; omega
      subst this; show 0 ≤ (n : Int) ∧ (n : Int) < c; omega
    have ho := h3 hst
    have h0 : o.getD 0 0 = n := h2 0 (by simp)
    have hl : (o.map fun s => (s - n) % (c : Int)).length = o.length := List.length_map ..
    have hg2 : ∀ i, i < o.length → (o.map fun s => (s - n) % (c : Int)).getD i 0 = (o.getD i 0 - n) % (c : Int) := fun i hi => by
      rw [List.getD_eq_getElem?_getD, List.getElem?_map, List.getElem?_eq_getElem hi, List.getD_eq_getElem?_getD, List.getElem?_eq_getElem hi]; rfl
    simp only [List.length_singleton] at h1 h4
    refine grS_none h (o.map fun s => (s - n) % (c : Int)) (by rw [hl]; exact h1) (fun i hi => ?_) (fun i hi => ?_) (fun k hk1 hk2 i hi => ?_)
    · have : i = 0 := by simp at hi; omega
      subst this
      rw [hg2 0 (by omega), h0, Int.sub_self]; rfl
    · rw [hl] at hi
      rw [hg2 i hi]
      exact ⟨Int.emod_nonneg _ (by omega), Int.emod_lt_of_pos _ (by omega)⟩
    · rw [hl] at hk2
      have := h4 k hk1 hk2 i hi
      rw [bpB, hg2 i (by omega), hg2 k hk2, mtB_shift (by omega)]
      exact this
/-- A device that blinds itself. -/
abbrev itB (l : List Dv) (c : Int) (k : Nat) : Bool := decide (c < win (l.getD k (0, 0, 0)))
theorem blk_eq {l : List Dv} {st : List Int} {n : Nat} {c : Int} : blk l (st ++ [(n : Int)]) c (st.length + 1) = (!(freB l st st.length n c) || itB l c st.length) := by
  have hl : (st ++ [(n : Int)]).length - 1 = st.length := by simp
  have hat : (st ++ [(n : Int)]).getD st.length 0 = n := by rw [getD_app, if_neg (by omega), if_pos rfl]
  have hpre : ∀ i, i < st.length → (st ++ [(n : Int)]).getD i 0 = st.getD i 0 := fun i hi => by rw [getD_app, if_pos hi]
  rw [blk_succ, hl, blB_ii]
  congr 1
  rw [blk, hl, Bool.eq_iff_iff, Bool.not_eq_true', List.any_eq_true]
  constructor
  · rintro ⟨i, hi, h⟩
    have hi := List.mem_range.1 hi
    rw [Bool.eq_false_iff]
    intro hf
    have := (fre_iff hpre hat).1 hf i hi
    rw [blB_ik hi] at h
    exact Bool.noConfusion (this.symm.trans h)
  · intro h
    rw [Bool.eq_false_iff, ne_eq, fre_iff hpre hat] at h
    refine Classical.byContradiction fun hno => h fun i hi => ?_
    rw [Bool.eq_false_iff]
    intro hb
    exact hno ⟨i, List.mem_range.2 hi, by rw [blB_ik hi]; exact hb⟩
theorem try_eq {g : Nat → Option (Option (List Int))} {h : Nat → Option (List Int)} (he : ∀ n, g n = (h n).map some) : ∀ r n, tryL g r n = tryG h r n
  | 0, _ => rfl
  | r + 1, n => by
    rw [tryL, tryG, he n]
    cases h n with
    | none => exact try_eq he r (n + 1)
    | some o => rfl
theorem plS_eq {l : List Dv} {c : Nat} (hi : ∀ k, k < l.length → itB l c k = false) : ∀ {f : Nat} {st : List Int}, 0 < st.length → st.length + f = l.length → plS l c f st = grS l c f st
  | 0, _, _, _ => rfl
  | f + 1, st, h0, hf => by
    rw [plS_succ, grS]
    refine try_eq (fun n => ?_) c 0
    rw [plG, blk_eq, hi st.length (by omega), Bool.or_false, plS_eq hi (f := f) (st := st ++ [(n : Int)]) (by simp) (by simp; omega)]
    cases freB l st st.length n c with
    | false => rfl
    | true =>
      rw [if_neg (by decide), if_pos rfl]
      cases grS l c f (st ++ [(n : Int)]) with
      | none => rw [if_neg (by omega)]; rfl
      | some o => rfl
theorem plS_it {l : List Dv} {c : Nat} : ∀ {f : Nat} {st o : List Int}, plS l c f st = some o → ∀ k, st.length ≤ k → k < st.length + f → itB l c k = false
  | 0, st, o, _, k, h1, h2 => absurd h1 (by omega)
  | f + 1, st, o, h, k, h1, h2 => by
    rw [plS_succ] at h
    refine tryL_pos (P := fun _ => itB l c k = false) (fun n o hn => ?_) _ _ _ h
    rw [plG, blk_eq] at hn
    split at hn
    · cases hn
    · rename_i hb
      split at hn
      · rename_i o' ho
        rcases Nat.lt_or_eq_of_le h1 with h5 | rfl
        · exact plS_it ho k (by simp; omega) (by simp; omega)
        · cases hq : itB l c st.length with
          | false => rfl
          | true => rw [hq, Bool.or_true] at hb; exact absurd rfl hb
      · split at hn <;> cases hn
/-- The first turns as the document has them. -/
def frR (l : List Dv) (c : Nat) : Option (List Int) := if (List.range l.length).any (itB l c) = true then none else grS l c l.length []
theorem plS_all {l : List Dv} {c : Nat} (hc : 0 < c) (hl : 0 < l.length) : plS l c l.length [] = frR l c := by
  rw [frR]
  split
  · rename_i h
    obtain ⟨k, hk, h⟩ := List.any_eq_true.1 h
    have hk := List.mem_range.1 hk
    cases hp : plS l c l.length [] with
    | none => rfl
    | some o =>
      have := plS_it hp k (Nat.zero_le _) (by simpa using hk)
      rw [h] at this; cases this
  · rename_i h
    have hi : ∀ k, k < l.length → itB l c k = false := fun k hk => by
      rw [Bool.eq_false_iff]; intro hb; exact h (List.any_eq_true.2 ⟨k, List.mem_range.2 hk, hb⟩)
    clear h
    obtain ⟨f, hf⟩ : ∃ f, l.length = f + 1 := ⟨l.length - 1, by omega⟩
    rcases c with _ | c
    · exact absurd hc (by decide)
    have hfr : ∀ n : Nat, freB l [] ([] : List Int).length n ((c + 1 : Nat) : Int) = true := fun n => rfl
    have hi0 : itB l ((c + 1 : Nat) : Int) ([] : List Int).length = false := hi 0 hl
    have h0 : plG l (c + 1) f [] 0 = match grS l (c + 1) f [((0 : Nat) : Int)] with | some o => some (some o) | none => some none := by
      have hb := blk_eq (l := l) (st := []) (n := 0) (c := ((c + 1 : Nat) : Int))
      rw [hfr, hi0] at hb
      rw [plG, hb, if_neg (by decide), plS_eq hi (by simp) (by simp; omega)]
      rfl
    rw [hf, plS_succ, grS, tryL, h0]
    cases hz : grS l (c + 1) f [((0 : Nat) : Int)] with
    | some o =>
      rw [tryG]
      show some o = match (if freB l [] ([] : List Int).length ((0 : Nat) : Int) ((c + 1 : Nat) : Int) = true then grS l (c + 1) f [((0 : Nat) : Int)] else none) with | none => _ | some o => some o
      rw [hfr, if_pos rfl, hz]
    | none =>
      refine (tryG_none.2 fun m _ hm => ?_).symm
      rw [hfr, if_pos rfl]
      exact grS_turn hc hz m (by omega)
end Go.Pw

set_option linter.unusedVariables false
set_option maxHeartbeats 2000000
set_option maxRecDepth 100000
namespace Go.Pw
open Go Go.Proofs
end Go.Pw

set_option linter.unusedSimpArgs false
set_option linter.unusedVariables false
namespace Go.Pw
set_option maxRecDepth 2000
open Go Go.Proofs A1 A2 A3 A4
end Go.Pw

set_option linter.unusedSimpArgs false
set_option linter.unusedVariables false
namespace Go.Pw
set_option maxRecDepth 2000
open Go Go.Proofs A1 A2 A3 A4
theorem cmpI_lt0 {a b : Int} : cmpI a b < 0 ↔ a < b := by rw [cmpI]; split <;> (try split) <;> omega
theorem cmpI_z0 {a b : Int} : cmpI a b = 0 ↔ a = b := by rw [cmpI]; split <;> (try split) <;> omega
theorem C34 {l m : List Int} : (l.length ≤ 1000000 ∧ m.length ≤ 1000000) → PFD Tryz.prog 34 [.c (ints l), .c (ints m)] (vbl (decide (cmpL l m < 0))) := fun ⟨hl, hm⟩ => by
  refine pi1 fn34 ?_
  (repeat' first | (refine Owe.same ?_; first | refine Owe.o ?_ | refine Owe.mk ?_ ?_) | (refine Fork.same ?_; (first | refine fkD ?_ ?_ | refine fkN ?_ ?_ | refine fkM ?_ ?_) <;> intro h) | refine MvQ.stay ?_)
  refine Sat.lp0 (fun k : Nat => [(5, vi .i64 k), (0, .c (ints l)), (1, .c (ints m))]) (fun k => (k ≤ l.length ∧ k ≤ m.length) ∧ cmpL l m = cmpL (l.drop k) (m.drop k)) (fun k => l.length - k) 0 ⟨⟨Nat.zero_le _, Nat.zero_le _⟩, rfl⟩ (by ((first | refine qen ?_ | refine qvs ?_ | refine qeq ?_ | refine qst ?_ | refine qv ?_ | refine qc ?_ | refine qe ?_ | refine qcs ?_ | skip); (repeat' first | exact rfl | (refine qS ?_; constructor)))) ?_
  intro k hk
  have hend : k = l.length ∨ k = m.length → (cmpL l m < 0 ↔ l.length < m.length) := fun h => by
    rw [hk.2]
    rcases Nat.lt_or_ge k m.length with h1 | h1
    · have hkl : k = l.length := by omega
      rw [List.drop_of_length_le (l := l) (by omega), List.drop_eq_getElem_cons h1, cmpL]
      exact ⟨fun _ => by omega, fun _ => by decide⟩
    · rw [List.drop_of_length_le (l := m) (by omega)]
      rcases Nat.lt_or_ge k l.length with h2 | h2
      · rw [List.drop_eq_getElem_cons h2, cmpL]
        exact ⟨fun hh => absurd hh (by decide), fun _ => by omega⟩
      · rw [List.drop_of_length_le (l := l) (by omega), cmpL]
        exact ⟨fun hh => absurd hh (by decide), fun _ => by omega⟩
  have hin : k < l.length → k < m.length → cmpL l m = if cmpI (l.getD k 0) (m.getD k 0) = 0 then cmpL (l.drop (k + 1)) (m.drop (k + 1)) else cmpI (l.getD k 0) (m.getD k 0) := fun h1 h2 => by rw [hk.2, cmpL_drop l m k h1 h2]
  (repeat' first | (refine Owe.same ?_; first | refine Owe.o ?_ | refine Owe.mk ?_ ?_) | (refine Fork.same ?_; (first | refine fkD ?_ ?_ | refine fkN ?_ ?_ | refine fkM ?_ ?_) <;> intro h) | refine MvQ.stay ?_)
  · simp only [Int.toNat_natCast] at h
    have e := hin (by omega) (by omega)
    rw [if_neg fun hh => h (cmpI_z0.1 hh)] at e
    rw [e]
    (refine rqK rfl ?_; (repeat' first | exact rfl | (refine qS ?_; constructor)))
    rw [decide_eq_decide]; exact cmpI_lt0.symm
  · simp only [Int.toNat_natCast] at h
    have e := hin (by omega) (by omega)
    rw [if_pos (cmpI_z0.2 h)] at e
    exact again0 (k + 1) ⟨by omega, e⟩ (by omega) (by ((first | refine qen ?_ | refine qvs ?_ | refine qeq ?_ | refine qst ?_ | refine qv ?_ | refine qc ?_ | refine qe ?_ | refine qcs ?_ | skip); (repeat' first | exact rfl | (refine qS ?_; constructor))))
  · have e := hend (by omega)
    (refine rqK rfl ?_; (repeat' first | exact rfl | (refine qS ?_; constructor)))
    rw [decide_eq_decide, e]; omega
  · have e := hend (by omega)
    (refine rqK rfl ?_; (repeat' first | exact rfl | (refine qS ?_; constructor)))
    rw [decide_eq_decide, e]; omega
end Go.Pw

set_option linter.unusedSimpArgs false
set_option linter.unusedVariables false
set_option maxHeartbeats 1000000
namespace Go.Pw
set_option maxRecDepth 2000
open Go Go.Proofs A1 A2 A3 A4
end Go.Pw

set_option linter.unusedSimpArgs false
set_option linter.unusedVariables false
namespace Go.Pw
set_option maxRecDepth 2000
open Go Go.Proofs A1 A2 A3 A4
end Go.Pw

set_option linter.unusedSimpArgs false
set_option linter.unusedVariables false
set_option maxHeartbeats 1000000
namespace Go.Pw
set_option maxRecDepth 2000
open Go Go.Proofs A1 A2 A3 A4
end Go.Pw

set_option linter.unusedSimpArgs false
set_option linter.unusedVariables false
namespace Go.Pw
set_option maxRecDepth 2000
open Go Go.Proofs A1 A2 A3 A4
/-- A sum of so many. -/
def smF (f : Nat → Int) : Nat → Int
  | 0 => 0
  | n + 1 => smF f n + f n
theorem smF_congr {f g : Nat → Int} : ∀ {n : Nat}, (∀ i, i < n → f i = g i) → smF f n = smF g n
  | 0, _ => rfl
  | n + 1, h => by rw [smF, smF, smF_congr fun i hi => h i (by omega), h n (by omega)]
end Go.Pw

set_option linter.unusedSimpArgs false
set_option linter.unusedVariables false
set_option maxHeartbeats 1000000
namespace Go.Pw
set_option maxRecDepth 2000
open Go Go.Proofs A1 A2 A3 A4
end Go.Pw

set_option linter.unusedSimpArgs false
set_option linter.unusedVariables false
set_option maxHeartbeats 4000000
namespace Go.Pw
set_option maxRecDepth 2000
open Go Go.Proofs A1 A2 A3 A4
end Go.Pw

set_option linter.unusedSimpArgs false
set_option linter.unusedVariables false
namespace Go.Pw
set_option maxRecDepth 2000
open Go Go.Proofs A1 A2 A3 A4
theorem smF_add {f g : Nat → Int} : ∀ n, smF (fun i => f i + g i) n = smF f n + smF g n
  | 0 => rfl
  | n + 1 => by simp only [smF, smF_add n]; omega
end Go.Pw

set_option linter.unusedSimpArgs false
set_option linter.unusedVariables false
namespace Go.Pw
set_option maxRecDepth 2000
open Go Go.Proofs A1 A2 A3 A4
theorem smF_swap {f : Nat → Nat → Int} {m : Nat} : ∀ n, smF (fun u => smF (fun j => f u j) m) n = smF (fun j => smF (fun u => f u j) n) m
  | 0 => by
    have : ∀ m, smF (fun j => smF (fun u => f u j) 0) m = 0 := fun m => by
      induction m with
      | zero => rfl
      | succ m ih => rw [smF, ih]; rfl
    rw [this]; rfl
  | n + 1 => by
    rw [smF, smF_swap n]
    simp only [smF]
    rw [smF_add]
theorem smF_one_le {f : Nat → Int} : ∀ {n : Nat}, (∀ i, i < n → f i ≤ 1) → smF f n ≤ n
  | 0, _ => Int.le_refl _
  | n + 1, h => by
    have := smF_one_le (n := n) fun i hi => h i (by omega)
    have := h n (by omega)
    simp only [smF]; omega
/-- At most one is one. -/
theorem smF_uniq {f : Nat → Int} : ∀ {n : Nat}, (∀ i, i < n → f i = 0 ∨ f i = 1) → (∀ i j, i < j → j < n → f i = 1 → f j = 1 → False) → smF f n ≤ 1
  | 0, _, _ => by rw [smF]; decide
  | n + 1, h, hu => by
    have ih := smF_uniq (n := n) (fun i hi => h i (by omega)) (fun i j hij hj => hu i j hij (by omega))
    simp only [smF]
    rcases h n (by omega) with h0 | h1
    · omega
    · have hz : smF f n = 0 := by
        have : ∀ m, m ≤ n → smF f m = 0 := fun m => by
          induction m with
          | zero => intro _; rfl
          | succ m ihm =>
            intro hm
            rw [smF, ihm (by omega)]
            rcases h m (by omega) with h2 | h2
            · rw [h2]; rfl
            · exact (hu m n (by omega) (by omega) h2 h1).elim
        exact this n (Nat.le_refl _)
      omega
theorem cnt_lt {a b : Int} (ha : 0 ≤ a) (hab : a ≤ b) : ∀ n : Nat, smF (fun u => if a ≤ (u : Int) ∧ (u : Int) < b then 1 else 0) n = if (n : Int) ≤ a then 0 else if (n : Int) ≤ b then n - a else b - a
  | 0 => by rw [smF, if_pos (by omega)]
  | n + 1 => by
    rw [smF, cnt_lt ha hab n]
    split <;> split <;> (try split) <;> (try split) <;> omega
theorem cnt_win {d : Dv} {s c : Int} {N : Nat} (hN : (N : Int) = c) (hs : 0 ≤ s ∧ s < c) (hw : 0 ≤ win d ∧ win d ≤ c) : smF (fun u => if inW d s c u = true then 1 else 0) N = win d := by
  have e : ∀ u : Nat, u < N → (if inW d s c u = true then (1 : Int) else 0) = (if s ≤ (u : Int) ∧ (u : Int) < s + win d then 1 else 0) + (if (0 : Int) ≤ (u : Int) ∧ (u : Int) < (if s + win d ≤ c then 0 else s + win d - c) then 1 else 0) := fun u hu => by
    have hm : ((u : Int) - s) % c = if (u : Int) < s then (u : Int) - s + c else u - s := by
      rw [emod_cs (by omega) (by omega) (by omega)]
      by_cases h : (u : Int) < s
      · rw [if_pos (show (u : Int) - s < 0 by omega), if_pos h]
      · rw [if_neg (show ¬ (u : Int) - s < 0 by omega), if_pos (show (u : Int) - s < c by omega), if_neg h]
    simp only [inW, decide_eq_true_eq, hm]
    generalize win d = w at *
    by_cases h1 : (u : Int) < s <;> by_cases h2 : s + w ≤ c <;> simp only [h1, h2, if_true, if_false] <;> split <;> split <;> (try split) <;> omega
  rw [smF_congr e, smF_add, cnt_lt hs.1 (by omega), cnt_lt (Int.le_refl _) (by split <;> omega)]
  generalize win d = w at *
  by_cases h2 : s + w ≤ c
  · simp only [h2, if_true]
    (repeat' split) <;> omega
  · simp only [h2, if_false]
    (repeat' split) <;> omega
/-- The windows of a set of devices, added up. -/
theorem wnS_sm {l : List Dv} {t : List Int} : ∀ k, wnS l t k = -(smF (fun j => win (dv l (t.getD j 0))) k)
  | 0 => rfl
  | k + 1 => by rw [wnS, wnS_sm k]; simp only [smF]; omega
theorem no_short {l : List Dv} {c n : Nat} (hO : DvOk l) (hc : 0 < c ∧ c ≤ 40) (hp : pwB l (subL l.length n) (subL l.length n).length = true) (hs : (c : Int) < -(wnS l (subL l.length n) (subL l.length n).length)) : frR l c = none := by
  rw [frR]
  split
  · rfl
  · rename_i hit
    cases hg : grS l c l.length [] with
    | none => rfl
    | some o =>
      exfalso
      obtain ⟨h1, _, h3, h4⟩ := grS_sound hg
      have h1 : o.length = l.length := by simpa using h1
      have hst := h3 (fun i hi => by cases hi)
      have hw : ∀ k, k < l.length → win (l.getD k (0, 0, 0)) ≤ c := fun k hk => by
        have : itB l c k = false := by
          rw [Bool.eq_false_iff]; intro hb; exact hit (List.any_eq_true.2 ⟨k, List.mem_range.2 hk, hb⟩)
        have := of_decide_eq_false this
        omega
      have htm : ∀ y ∈ subL l.length n, 0 ≤ y ∧ y < l.length := fun y hy => subL_mem hy
      have hts : srt (subL l.length n) := srt_of fltL_asc
      generalize subL l.length n = t at *
      have hcnt : ∀ j, j < t.length → smF (fun u => if inW (dv l (t.getD j 0)) (o.getD (t.getD j 0).toNat 0) c u = true then 1 else 0) c = win (dv l (t.getD j 0)) := fun j hj => by
        have hm := htm _ (getD_mem 0 hj)
        have hd := hO.d (t.getD j 0).toNat (by omega)
        have hwj := hw (t.getD j 0).toNat (by omega)
        refine cnt_win rfl (hst _ (by omega)) ⟨?_, hwj⟩
        show 0 ≤ (l.getD (t.getD j 0).toNat (0, 0, 0)).2.1 + (l.getD (t.getD j 0).toNat (0, 0, 0)).2.2
        obtain ⟨_, h5, h6⟩ := hd
        omega
      rw [wnS_sm, Int.neg_neg, ← smF_congr hcnt, ← smF_swap] at hs
      have hle : smF (fun u => smF (fun j => if inW (dv l (t.getD j 0)) (o.getD (t.getD j 0).toNat 0) c u = true then 1 else 0) t.length) c ≤ c := by
        refine smF_one_le fun u hu => smF_uniq (fun j _ => by split; exact .inr rfl; exact .inl rfl) fun i j hij hj hi1 hj1 => ?_
        have hii : inW (dv l (t.getD i 0)) (o.getD (t.getD i 0).toNat 0) c u = true := by
          have h9 : (if inW (dv l (t.getD i 0)) (o.getD (t.getD i 0).toNat 0) c u = true then (1 : Int) else 0) = 1 := hi1
          by_cases h8 : inW (dv l (t.getD i 0)) (o.getD (t.getD i 0).toNat 0) c u = true
          · exact h8
          · rw [if_neg h8] at h9; exact absurd h9 (by decide)
        have hjj : inW (dv l (t.getD j 0)) (o.getD (t.getD j 0).toNat 0) c u = true := by
          have h9 : (if inW (dv l (t.getD j 0)) (o.getD (t.getD j 0).toNat 0) c u = true then (1 : Int) else 0) = 1 := hj1
          by_cases h8 : inW (dv l (t.getD j 0)) (o.getD (t.getD j 0).toNat 0) c u = true
          · exact h8
          · rw [if_neg h8] at h9; exact absurd h9 (by decide)
        have hmi := htm _ (getD_mem 0 (show i < t.length by omega))
        have hmj := htm _ (getD_mem 0 hj)
        have hlt := hts i j hij hj
        have hdi := hO.d (t.getD i 0).toNat (by omega)
        have hdj := hO.d (t.getD j 0).toNat (by omega)
        have hmt : mtB (l.getD (t.getD i 0).toNat (0, 0, 0)) (l.getD (t.getD j 0).toNat (0, 0, 0)) (o.getD (t.getD i 0).toNat 0) (o.getD (t.getD j 0).toNat 0) c = true :=
          (mtB_iff hdi hdj (by omega) (hst _ (by omega)) (hst _ (by omega))).2 ⟨u, by omega, hii, hjj⟩
        have hds : dist (l.getD (t.getD i 0).toNat (0, 0, 0)) (l.getD (t.getD j 0).toNat (0, 0, 0)) = true := by
          have h5 := List.all_eq_true.1 (List.all_eq_true.1 hp j (List.mem_range.2 hj)) i (List.mem_range.2 hij)
          have h6 := of_decide_eq_true h5
          refine decide_eq_true ?_
          simp only [dv] at h6
          omega
        have h7 := h4 (t.getD j 0).toNat (Nat.zero_le _) (by omega) (t.getD i 0).toNat (by omega)
        rw [bpB, hds, hmt] at h7
        exact absurd h7 (by decide)
      omega
end Go.Pw

set_option linter.unusedVariables false
set_option maxHeartbeats 2000000
set_option maxRecDepth 100000
namespace Go.Pw
open Go Go.Proofs
/-- moonpool/moonpoolbase.CopyInts -/
def lc47u : LCode :=
  (.seq (.region [⟨some 2, .mv (.const (.slice none 0 0)), none⟩]) (.seq (.region [⟨some 3, .lit false 3 1 [], none⟩, ⟨some 4, .mv (.tmp 0), none⟩, ⟨some 5, .append true 3 1 8
    (.tmp 3) (.tmp 4), none⟩, ⟨some 2, .mv (.tmp 5), none⟩]) .ret))
theorem low47u : lowF Tryz.prog [5] Tryz.f47 = some (6, lc47u.strip, [.tmp 2]) := by kernel_rfl
theorem fn47u : FnOk Tryz.prog 47 6 lc47u [.tmp 2] := ⟨Tryz.call47, [5], _, Tryz.func47, low47u⟩
end Go.Pw

set_option linter.unusedSimpArgs false
set_option linter.unusedVariables false
set_option maxHeartbeats 1000000
namespace Go.Pw
set_option maxRecDepth 2000
open Go Go.Proofs A1 A2 A3 A4
theorem C13 {l : List Dv} : DvOk l → PFD Tryz.prog 13 [.c (trs l)] (vbl (decide ((∀ k, k < l.length → win (l.getD k (0, 0, 0)) ≤ 5) ∧ (l.length : Int) ≤ 4))) := fun hO => by
  have hn := hO.n
  obtain ⟨q, hq⟩ : ∃ q, q = decide ((∀ k, k < l.length → win (l.getD k (0, 0, 0)) ≤ 5) ∧ (l.length : Int) ≤ 4) := ⟨_, rfl⟩
  rw [← hq]
  refine pi1 fn13 ?_
  (repeat' first | (refine Owe.same ?_; first | refine Owe.o ?_ | refine Owe.mk ?_ ?_) | (refine Fork.same ?_; (first | refine fkD ?_ ?_ | refine fkN ?_ ?_ | refine fkM ?_ ?_) <;> intro h) | refine MvQ.stay ?_)
  refine Sat.lp0 (fun k : Nat => [(3, vi .i64 k), (0, .c (trs l))]) (fun k => k ≤ l.length ∧ ∀ i, i < k → win (l.getD i (0, 0, 0)) ≤ 5) (fun k => l.length - k) 0 ⟨Nat.zero_le _, fun i hi => by omega⟩ (by ((first | refine qen ?_ | refine qvs ?_ | refine qeq ?_ | refine qst ?_ | refine qv ?_ | refine qc ?_ | refine qe ?_ | refine qcs ?_ | skip); (repeat' first | exact rfl | (refine qS ?_; constructor)))) ?_
  intro k hk
  refine Fork.dec (fun hlt => ?_) (fun hlt => ?_)
  · have hlt : k < l.length := Int.ofNat_lt.1 hlt
    have c32 := C32 (d := l.getD k (0, 0, 0)) (hO.d k hlt)
    have hw : win (l.getD k (0, 0, 0)) = win (l.getD k (0, 0, 0)) := rfl
    generalize hW : win (l.getD k (0, 0, 0)) = w at *
    (repeat' first | (refine Owe.same ?_; first | refine Owe.o ?_ | refine Owe.mk ?_ ?_) | (refine Fork.same ?_; (first | refine fkD ?_ ?_ | refine fkN ?_ ?_ | refine fkM ?_ ?_) <;> intro h) | ((first | refine OpsL.same ?_ | refine OpsDL.same ?_); first | refine pK c32 rfl rfl ?_) | refine MvQ.stay ?_)
    · have : q = false := by
        rw [hq]; exact decide_eq_false fun hh => by have := hh.1 k hlt; omega
      rw [this]
      (refine rqK rfl ?_; (repeat' first | exact rfl | (refine qS ?_; constructor)))
    · refine again0 (k + 1) ⟨hlt, fun i hi => ?_⟩ (by omega) (by ((first | refine qen ?_ | refine qvs ?_ | refine qeq ?_ | refine qst ?_ | refine qv ?_ | refine qc ?_ | refine qe ?_ | refine qcs ?_ | skip); (repeat' first | exact rfl | (refine qS ?_; constructor))))
      rcases Nat.lt_succ_iff_lt_or_eq.1 hi with h9 | rfl
      · exact hk.2 i h9
      · omega
  · have hlt : ¬ ((k : Int) < (l.length : Int)) := hlt
    (repeat' first | (refine Owe.same ?_; first | refine Owe.o ?_ | refine Owe.mk ?_ ?_) | (refine Fork.same ?_; (first | refine fkD ?_ ?_ | refine fkN ?_ ?_ | refine fkM ?_ ?_) <;> intro h) | refine MvQ.stay ?_)
    (refine rqK rfl ?_; (repeat' first | exact rfl | (refine qS ?_; constructor)))
    rw [hq, decide_eq_decide]
    exact ⟨fun h => ⟨fun i hi => hk.2 i (by omega), h⟩, fun h => h.2⟩
end Go.Pw

set_option linter.unusedSimpArgs false
set_option linter.unusedVariables false
set_option maxHeartbeats 1000000
namespace Go.Pw
set_option maxRecDepth 2000
open Go Go.Proofs A1 A2 A3 A4
/-- The turns of starts that were found. -/
def frT (c : Nat) : Option (List Int) → Tn
  | some o => ((c : Int), o)
  | none => (0, [])
/-- The shortest turns, looked for from a cycle on. -/
def stT (l : List Dv) : Nat → Nat → Tn × Bool
  | 0, _ => ((0, []), false)
  | r + 1, c => match frR l c with
    | some o => (((c : Int), o), true)
    | none => stT l r (c + 1)
end Go.Pw

set_option linter.unusedSimpArgs false
set_option linter.unusedVariables false
set_option maxHeartbeats 1000000
namespace Go.Pw
set_option maxRecDepth 2000
open Go Go.Proofs A1 A2 A3 A4
end Go.Pw

set_option linter.unusedSimpArgs false
set_option linter.unusedVariables false
set_option maxHeartbeats 2000000
namespace Go.Pw
set_option maxRecDepth 2000
open Go Go.Proofs A1 A2 A3 A4
theorem ftR_ok {l : List Dv} {c : Nat} (hl : DvOk l) (hc : 0 < c ∧ c ≤ 40) : ftR l c = (frT c (frR l c), if (frR l c).isSome = true then 0 else 12) := by
  have h0 : fstE [(dvsE l).2, cyE (c : Int)] = 0 := fst2.2 ⟨dvsE_ok.2 hl, cyE_ok.2 (by omega)⟩
  rw [ftR, if_pos h0, Int.toNat_natCast, plS_all hc.1 hl.n.1]
  cases frR l c with
  | none => rfl
  | some o => rfl
theorem stT_skip {l : List Dv} : ∀ {d r c : Nat}, (∀ k, c ≤ k → k < c + d → frR l k = none) → stT l (d + r) c = stT l r (c + d)
  | 0, r, c, _ => by rw [Nat.zero_add]; rfl
  | d + 1, r, c, h => by
    rw [show d + 1 + r = (d + r) + 1 by omega, stT, h c (Nat.le_refl _) (by omega)]
    show stT l (d + r) (c + 1) = _
    rw [stT_skip fun k h1 h2 => h k (by omega) (by omega), show c + 1 + d = c + (d + 1) by omega]
theorem findT_eq {l : List Dv} (hl : DvOk l) : ∀ {r c : Nat}, 0 < c → c + r ≤ 41 → findT l r c = ((stT l r c).1, if (stT l r c).2 = true then 0 else 12)
  | 0, _, _, _ => rfl
  | r + 1, c, h0, h1 => by
    rw [findT, stT, ftR_ok hl ⟨h0, by omega⟩]
    cases hf : frR l c with
    | none =>
      have := findT_eq hl (r := r) (c := c + 1) (by omega) (by omega)
      simpa using this
    | some o => rfl
theorem shR_ok {l : List Dv} (hl : DvOk l) : shR l = ((stT l 40 1).1, if (stT l 40 1).2 = true then 0 else 12) := by
  have h0 : (dvsE l).2 = 0 := dvsE_ok.2 hl
  obtain ⟨hb1, hb2⟩ := best_p (c := bdC l) (n := l.length) (2 ^ l.length)
  have hlo := bestK_lo (c := bdC l) (n := l.length) (lo := -100) (by decide) (fun b => bdC_bd hl b) (2 ^ l.length)
  rw [shR, if_pos h0]
  change (bdK l).ok = true → ∃ x, x < 2 ^ l.length ∧ (bdK l).l = subL l.length x ∧ (bdK l).p = (bdC l (subL l.length x)).1 ∧ (bdC l (subL l.length x)).2 = true at hb2
  change -100 ≤ (bdK l).p ∧ (bdK l).p ≤ 0 at hlo
  have e0 : subL l.length 0 = [] := by
    have : ∀ n, fltL (fun i => (0 : Nat).testBit i) n = [] := fun n => by
      induction n with
      | zero => rfl
      | succ n ih => rw [fltL_succ, ih, if_neg (by simp)]
    exact this _
  have hok : (bdK l).ok = true := (hb1 0 (Nat.pow_pos (by decide)) (by rw [e0]; rfl)).1
  obtain ⟨x, _, _, e1, e2⟩ := hb2 hok
  have hp : pwB l (subL l.length x) (subL l.length x).length = true := by
    rw [bdC] at e2
    split at e2
    · assumption
    · cases e2
  rw [bdC, if_pos hp] at e1
  have hno : ∀ k : Nat, 0 < k → k ≤ 40 → (k : Int) < -(bdK l).p → frR l k = none := fun k h1 h2 h3 => no_short (n := x) hl ⟨h1, h2⟩ hp (by rw [e1] at h3; exact h3)
  generalize (bdK l).p = p at *
  obtain ⟨B, hB⟩ : ∃ B : Nat, p = -(B : Int) := ⟨(-p).toNat, by omega⟩
  subst hB
  rw [Int.neg_neg] at hno ⊢
  rcases Nat.eq_zero_or_pos B with rfl | hB
  · rw [show (41 + -((0 : Nat) : Int)).toNat = 40 + 1 by decide, findT, if_neg (by rw [ftR, if_neg (by rw [fst2, cyE_ok]; omega)]; rw [h0]; decide)]
    exact findT_eq hl (r := 40) (c := 1) (by decide) (by decide)
  · rcases Nat.lt_or_ge 41 B with h41 | h41
    · rw [show (41 + -(B : Int)).toNat = 0 by omega, show stT l 40 1 = stT l (40 + 0) 1 from rfl, stT_skip fun k h1 h2 => hno k (by omega) (by omega) (by omega)]
      rfl
    · rw [show (41 + -(B : Int)).toNat = 41 - B by omega, findT_eq hl hB (by omega)]
      have e : stT l 40 1 = stT l (41 - B) B := by
        rw [show (40 : Nat) = (B - 1) + (41 - B) by omega, stT_skip fun k h1 h2 => hno k (by omega) (by omega) (by omega)]
        rw [show 1 + (B - 1) = B by omega]
      rw [e]
theorem frR_len {l : List Dv} {c : Nat} {o : List Int} (h : frR l c = some o) : o.length = l.length := by
  rw [frR] at h
  split at h
  · cases h
  · have := (grS_sound h).1
    simpa using this
end Go.Pw

set_option linter.unusedSimpArgs false
set_option linter.unusedVariables false
namespace Go.Pw
set_option maxRecDepth 2000
open Go Go.Proofs A1 A2 A3 A4
theorem fstK_none {f : Nat → Bool} {n : Nat} : ∀ {r : Nat}, r ≤ n → (fstK f n r = none ↔ ∀ k, n - r ≤ k → k < n → f k = false)
  | 0, _ => ⟨fun _ k h1 h2 => by omega, fun _ => rfl⟩
  | r + 1, hr => by
    rw [fstK]
    cases h : f (n - (r + 1)) with
    | true =>
      rw [if_pos rfl]
      exact ⟨fun hh => ((by cases hh)), fun hh => by rw [hh (n - (r + 1)) (Nat.le_refl _) (by omega)] at h; cases h⟩
    | false =>
      rw [if_neg (by decide), fstK_none (r := r) (by omega)]
      constructor
      · intro hh k h1 h2
        rcases Nat.lt_or_eq_of_le h1 with h3 | rfl
        · exact hh k (by omega) h2
        · exact h
      · intro hh k h1 h2; exact hh k (by omega) h2
theorem prR_none {f : Nat → Nat → Bool} {n : Nat} : ∀ {r : Nat}, r ≤ n → (prR f n r = none ↔ ∀ i, n - r ≤ i → i < n → ∀ k, i ≤ k → k < n → f i k = false)
  | 0, _ => ⟨fun _ k h1 h2 => by omega, fun _ => rfl⟩
  | r + 1, hr => by
    rw [prR]
    have hk := fstK_none (f := f (n - (r + 1))) (n := n) (r := r + 1) hr
    cases h : fstK (f (n - (r + 1))) n (r + 1) with
    | some k =>
      rw [h] at hk
      refine ⟨fun hh => ((by cases hh)), fun hh => ?_⟩
      have := hk.2 fun k h1 h2 => hh (n - (r + 1)) (Nat.le_refl _) (by omega) k h1 h2
      cases this
    | none =>
      have hk := hk.1 h
      show prR f n r = none ↔ _
      rw [prR_none (r := r) (by omega)]
      constructor
      · intro hh i h1 h2 k h3 h4
        rcases Nat.lt_or_eq_of_le h1 with h5 | rfl
        · exact hh i (by omega) h2 k h3 h4
        · exact hk k h3 h4
      · intro hh i h1 h2; exact hh i (by omega) h2
theorem prB_none {l : List Dv} {t : Tn} : prB l t = none ↔ ∀ k, k < l.length → itB l t.1 k = false ∧ ∀ i, i < k → bpB l t.2 i k t.1 = false := by
  rw [prB, prR_none (Nat.le_refl _), Nat.sub_self]
  constructor
  · intro h k hk
    refine ⟨?_, fun i hi => ?_⟩
    · have := h k (Nat.zero_le _) hk k (Nat.le_refl _) hk
      rwa [blB_ii] at this
    · have := h i (Nat.zero_le _) (by omega) k (by omega) hk
      rwa [blB_ik hi] at this
  · intro h i _ hi k hik hk
    rcases Nat.lt_or_eq_of_le hik with h1 | rfl
    · rw [blB_ik h1]; exact (h k hk).2 i h1
    · rw [blB_ii]; exact (h i hi).1
theorem fstK_congr {f g : Nat → Bool} {n : Nat} (h : ∀ k, k < n → f k = g k) : ∀ {r : Nat}, r ≤ n → fstK f n r = fstK g n r
  | 0, _ => rfl
  | r + 1, hr => by rw [fstK, fstK, h _ (by omega), fstK_congr h (r := r) (by omega)]
theorem prR_congr {f g : Nat → Nat → Bool} {n : Nat} (h : ∀ i k, i < n → k < n → f i k = g i k) : ∀ {r : Nat}, r ≤ n → prR f n r = prR g n r
  | 0, _ => rfl
  | r + 1, hr => by rw [prR, prR, fstK_congr (h (n - (r + 1)) · (by omega)) hr, prR_congr h (r := r) (by omega)]
/-- Starts moved together. -/
abbrev mvS (st : List Int) (c m : Int) : List Int := st.map fun s => (s + m) % c
theorem mvS_get {st : List Int} {c m : Int} {i : Nat} (hi : i < st.length) : (mvS st c m).getD i 0 = (st.getD i 0 + m) % c := by
  rw [List.getD_eq_getElem?_getD, List.getElem?_map, List.getElem?_eq_getElem hi, List.getD_eq_getElem?_getD, List.getElem?_eq_getElem hi]; rfl
theorem mv_ok {l : List Dv} {c m : Int} {st : List Int} (h : TnOk l (c, st)) : TnOk l (c, mvS st c m) := by
  have hc := h.c
  refine ⟨h.d, h.c, by rw [← h.n]; exact List.length_map .., fun i hi => ?_⟩
  have hi : i < st.length := by simpa using hi
  show 0 ≤ (mvS st c m).getD i 0 ∧ (mvS st c m).getD i 0 < c
  rw [mvS_get hi]
  simp only at hc
  exact ⟨Int.emod_nonneg _ (by omega), Int.emod_lt_of_pos _ hc.1⟩
theorem mv_same {l : List Dv} {c m : Int} {st : List Int} (h : TnOk l (c, st)) : prB l (c, mvS st c m) = prB l (c, st) := by
  have hc := h.c
  have hn := h.n
  simp only at hc hn
  refine prR_congr (fun i k hi hk => ?_) (Nat.le_refl _)
  simp only [blB]
  split
  · rfl
  · rw [mvS_get (by omega), mvS_get (by omega)]
    have := mtB_shift (a := l.getD i (0, 0, 0)) (b := l.getD k (0, 0, 0)) (s := st.getD i 0) (t := st.getD k 0) (c := c) (n := -m) hc.1
    rw [Int.sub_neg, Int.sub_neg] at this
    rw [this]
theorem frR_some {l : List Dv} {c : Nat} {o : List Int} (hD : DvOk l) (hc : 0 < c ∧ c ≤ 40) (h : frR l c = some o) : TnOk l ((c : Int), o) ∧ prB l ((c : Int), o) = none := by
  have hlen := frR_len h
  rw [frR] at h
  split at h
  · cases h
  rename_i hit
  obtain ⟨h1, h2, h3, h4⟩ := grS_sound h
  refine ⟨⟨hD, by simp only; omega, hlen, h3 fun i hi => by cases hi⟩, prB_none.2 fun k hk => ⟨?_, fun i hi => ?_⟩⟩
  · rw [Bool.eq_false_iff]; intro hb; exact hit (List.any_eq_true.2 ⟨k, List.mem_range.2 hk, hb⟩)
  · exact h4 k (Nat.zero_le _) (by rw [hlen]; exact hk) i hi
theorem frR_none {l : List Dv} {c : Nat} {st : List Int} (h : frR l c = none) (hO : TnOk l ((c : Int), st)) : prB l ((c : Int), st) ≠ none := by
  intro hp
  have hp := prB_none.1 hp
  have hn := hO.n
  simp only at hn hp
  rw [frR] at h
  split at h
  · rename_i hit
    obtain ⟨k, hk, hb⟩ := List.any_eq_true.1 hit
    have := (hp k (List.mem_range.1 hk)).1
    rw [hb] at this; cases this
  · exact grS_none h st (by simpa using hn) (fun i hi => by cases hi) hO.s fun k _ hk i hi => (hp k (by omega)).2 i hi
theorem grS_min {l : List Dv} {c : Nat} : ∀ {f : Nat} {st o : List Int}, grS l c f st = some o → ∀ o' : List Int, o'.length = st.length + f → (∀ i, i < st.length → o'.getD i 0 = st.getD i 0) → stOk o' c → (∀ k, st.length ≤ k → k < o'.length → ∀ i, i < k → bpB l o' i k c = false) → ¬ cmpL (o'.drop st.length) (o.drop st.length) < 0
  | 0, st, o, h, o', h1, _, _, _ => by
    rw [grS] at h; cases h
    rw [List.drop_of_length_le (l := o') (by omega), List.drop_of_length_le (l := st) (by omega)]
    decide
  | f + 1, st, o, h, o', h1, h2, h3, h4 => by
    have hlen := (grS_sound h).1
    rw [grS] at h
    obtain ⟨m, _, hm, hg, hno⟩ := tryG_some h
    split at hg
    · rename_i hf
      have hs := grS_sound hg
      have hat : o.getD st.length 0 = m := by
        rw [hs.2.1 st.length (by simp), getD_app, if_neg (by omega), if_pos rfl]
      have hk : st.length < o'.length := by omega
      have hb := h3 st.length hk
      obtain ⟨s, hs'⟩ : ∃ s : Nat, o'.getD st.length 0 = s := ⟨(o'.getD st.length 0).toNat, by omega⟩
      have hpre : ∀ i, i < (st ++ [(s : Int)]).length → o'.getD i 0 = (st ++ [(s : Int)]).getD i 0 := fun i hi => by
        rw [List.length_append, List.length_singleton] at hi
        rw [getD_app]
        split
        · rename_i h5; exact h2 i h5
        · have : i = st.length := by omega
          subst this
          rw [if_pos rfl]; exact hs'
      have hl1 : o'.length = (st ++ [(s : Int)]).length + f := by rw [List.length_append, List.length_singleton]; omega
      have hfree : freB l st st.length s c = true := (fre_iff h2 hs').2 (h4 st.length (Nat.le_refl _) hk)
      have h4' : ∀ k, (st ++ [(s : Int)]).length ≤ k → k < o'.length → ∀ i, i < k → bpB l o' i k c = false := fun k hk1 hk2 => by
        rw [List.length_append, List.length_singleton] at hk1
        exact h4 k (by omega) hk2
      have hms : m ≤ s := by
        refine Nat.le_of_not_lt fun hlt => ?_
        have hz := hno s (Nat.zero_le _) hlt
        rw [if_pos hfree] at hz
        exact grS_none hz o' hl1 hpre h3 h4'
      rw [cmpL_drop o' o st.length hk (by omega), hs', hat]
      rcases Nat.lt_or_eq_of_le hms with h5 | rfl
      · rw [if_neg (by rw [cmpI_0]; omega), cmpI_lt]; omega
      · rw [if_pos (cmpI_0.2 rfl)]
        have ih := grS_min hg o' hl1 hpre h3 h4'
        rw [List.length_append, List.length_singleton] at ih
        exact ih
    · cases hg
theorem frR_min {l : List Dv} {c : Nat} {o st : List Int} (h : frR l c = some o) (hO : TnOk l ((c : Int), st)) (hp : prB l ((c : Int), st) = none) : ¬ cmpL st o < 0 := by
  have hp := prB_none.1 hp
  have hn := hO.n
  simp only at hn hp
  rw [frR] at h
  split at h
  · cases h
  · exact grS_min h st (by simpa using hn) (fun i hi => by cases hi) hO.s fun k _ hk i hi => (hp k (by omega)).2 i hi
theorem stT_spec {l : List Dv} : ∀ {r c : Nat}, if (stT l r c).2 = true then ∃ k o, c ≤ k ∧ k < c + r ∧ frR l k = some o ∧ (stT l r c).1 = ((k : Int), o) ∧ ∀ j, c ≤ j → j < k → frR l j = none else ∀ k, c ≤ k → k < c + r → frR l k = none
  | 0, c => by
    rw [stT, if_neg (by decide)]
    intro k h1 h2; omega
  | r + 1, c => by
    rw [stT]
    cases hf : frR l c with
    | some o =>
      simp only [if_true]
      exact ⟨c, o, Nat.le_refl _, by omega, hf, rfl, fun j h1 h2 => by omega⟩
    | none =>
      have ih := stT_spec (l := l) (r := r) (c := c + 1)
      simp only
      split
      · rename_i h
        rw [if_pos h] at ih
        obtain ⟨k, o, h1, h2, h3, h4, h5⟩ := ih
        refine ⟨k, o, by omega, by omega, h3, h4, fun j hj1 hj2 => ?_⟩
        rcases Nat.lt_or_eq_of_le hj1 with h6 | rfl
        · exact h5 j h6 hj2
        · exact hf
      · rename_i h
        rw [if_neg h] at ih
        intro k h1 h2
        rcases Nat.lt_or_eq_of_le h1 with h6 | rfl
        · exact ih k h6 (by omega)
        · exact hf
/-- Three devices with short windows have turns in a cycle of 15. -/
theorem fr15 {l : List Dv} (hD : DvOk l) (h3 : l.length ≤ 3) (hw : ∀ k, k < l.length → win (l.getD k (0, 0, 0)) ≤ 5) : frR l 15 ≠ none := by
  intro h
  have hg : ∀ i, i < l.length → ((List.range l.length).map fun i : Nat => 5 * (i : Int)).getD i 0 = 5 * (i : Int) := fun i hi => by
    rw [List.getD_eq_getElem?_getD, List.getElem?_map, List.getElem?_range hi]; rfl
  have hlen : ((List.range l.length).map fun i : Nat => 5 * (i : Int)).length = l.length := by simp
  refine frR_none (st := (List.range l.length).map fun i : Nat => 5 * (i : Int)) h ⟨hD, show 0 < ((15 : Nat) : Int) ∧ ((15 : Nat) : Int) ≤ 40 by decide, hlen, fun i hi => ?_⟩ (prB_none.2 fun k hk => ⟨?_, fun i hi => ?_⟩)
  · simp only at hi ⊢
    rw [hlen] at hi
    rw [hg i hi]; omega
  · have := hw k hk
    exact decide_eq_false (by show ¬ ((15 : Nat) : Int) < win (l.getD k (0, 0, 0)); omega)
  · simp only [bpB]
    rw [hg i (by omega), hg k hk, Bool.and_eq_false_iff]
    right
    have h1 := hw i (by omega)
    have h2 := hw k hk
    rw [mtB, Bool.or_eq_false_iff]
    rcases (show (i = 0 ∧ k = 1) ∨ (i = 0 ∧ k = 2) ∨ (i = 1 ∧ k = 2) by omega) with ⟨rfl, rfl⟩ | ⟨rfl, rfl⟩ | ⟨rfl, rfl⟩ <;> constructor <;> refine decide_eq_false ?_ <;> omega
/-- What the shortest turns are. -/
theorem st_small {l : List Dv} (hD : DvOk l) (h3 : l.length ≤ 3) (hw : ∀ k, k < l.length → win (l.getD k (0, 0, 0)) ≤ 5) : ∃ (k : Nat) (o : List Int), (0 < k ∧ k ≤ 15) ∧ stT l 40 1 = (((k : Int), o), true) ∧ TnOk l ((k : Int), o) ∧ prB l ((k : Int), o) = none ∧ ∀ (c : Nat) (st : List Int), c < k → TnOk l ((c : Int), st) → prB l ((c : Int), st) ≠ none := by
  have hs := stT_spec (l := l) (r := 40) (c := 1)
  have h15 := fr15 hD h3 hw
  split at hs
  · rename_i h
    obtain ⟨k, o, h1, h2, hf, e, hno⟩ := hs
    have hk : k ≤ 15 := Nat.le_of_not_lt fun hlt => h15 (hno 15 (by omega) hlt)
    obtain ⟨h5, h6⟩ := frR_some hD ⟨by omega, by omega⟩ hf
    refine ⟨k, o, ⟨by omega, hk⟩, Prod.ext e h, h5, h6, fun c st hc hO => frR_none (hno c ?_ hc) hO⟩
    have := hO.c
    simp only at this
    omega
  · exact absurd (hs 15 (by omega) (by omega)) h15
/-- What the set of the bound is. -/
theorem bd_set {l : List Dv} (hD : DvOk l) : ∃ n : Nat, (bdK l).l = subL l.length n ∧ (bdK l).p = wnS l (subL l.length n) (subL l.length n).length ∧ pwB l (subL l.length n) (subL l.length n).length = true ∧ (bdK l).p < 0 := by
  obtain ⟨hb1, hb2⟩ := best_p (c := bdC l) (n := l.length) (2 ^ l.length)
  change (bdK l).ok = true → ∃ x, x < 2 ^ l.length ∧ (bdK l).l = subL l.length x ∧ (bdK l).p = (bdC l (subL l.length x)).1 ∧ (bdC l (subL l.length x)).2 = true at hb2
  have hn := hD.n
  have hpow : 1 < 2 ^ l.length := Nat.one_lt_two_pow (by omega)
  have e1 : subL l.length 1 = [0] := by
    obtain ⟨m, hm⟩ : ∃ m, l.length = m + 1 := ⟨l.length - 1, by omega⟩
    rw [hm]
    have : ∀ m, fltL (fun i => (1 : Nat).testBit i) (m + 1) = [0] := fun m => by
      induction m with
      | zero => rfl
      | succ m ih => rw [fltL_succ, ih, if_neg (by rw [Nat.testBit_succ]; simp)]
    exact this m
  have hd0 := hD.d 0 (by omega)
  have hp1 : bdC l (subL l.length 1) = (-(win (l.getD 0 (0, 0, 0))), true) := by
    rw [e1, bdC, if_pos (by rfl)]
    simp only [List.length_singleton, wnS]
    rw [Int.zero_sub]; rfl
  have hok := hb1 1 hpow (by rw [hp1])
  rw [hp1] at hok
  have hle : (bdK l).p ≤ -(win (l.getD 0 (0, 0, 0))) := hok.2
  obtain ⟨x, _, e2, e3, e4⟩ := hb2 hok.1
  have hp : pwB l (subL l.length x) (subL l.length x).length = true := by
    rw [bdC] at e4
    split at e4
    · assumption
    · cases e4
  rw [bdC, if_pos hp] at e3
  refine ⟨x, e2, e3, hp, ?_⟩
  obtain ⟨_, h5, h6⟩ := hd0
  have : win (l.getD 0 (0, 0, 0)) = (l.getD 0 (0, 0, 0)).2.1 + (l.getD 0 (0, 0, 0)).2.2 := rfl
  omega
end Go.Pw

set_option linter.unusedVariables false
namespace Go.Pw
open Go Go.RowKit
/-- The row that lies in a cell of a box is closed; the cell holds data. -/
theorem Mv.freezeX {base : Nat} {env : List (Nat × V)} {σ : Store} {nx : Nat} (idb j id : Nat) {cs : List C} {n : Nat} {e : TypeId} {s m : Nat} {f : Nat → List D} {fz : Bool} (hbx : get σ idb = some (.box cs)) (hj : cs[j]? = some (.ms id n)) (hg : get σ id = some (.row e s m f fz)) (hn : n ≤ m) :
    Mv base ⟨env, σ, nx⟩ ⟨env, set (set σ id (.row e s m f true)) idb (.box (putAt cs j (.d (.sl s n f)))), nx⟩ := fun N B0 Γ w a hc => by
  have hne : idb ≠ id := fun h => by subst h; rw [hbx] at hg; cases hg
  obtain ⟨Γ', b, hb, rfl, h1, h2⟩ := hc.freeze hg
  have hg' : get (set σ id (.row e s m f true)) idb = some (.box cs) := by rw [get_set_other hne]; exact hbx
  obtain ⟨b2, hb2, hok2⟩ := h1.ok.ok idb _ hg'
  obtain ⟨hI, xs, t, hh, hl, hr⟩ := hok2
  obtain ⟨b3, hb3, hok3⟩ := hc.ok.ok idb _ hbx
  have : b3 = b2 := by
    have e : Γ.ρ idb = some b2 := hb2
    rw [hb3] at e; cases e; rfl
  subst this
  obtain ⟨_, xs', t', hh', _, hr'⟩ := hok3
  rw [hh] at hh'; cases hh'
  have h3 := h1.ok.modify (w' := w) (e' := .box (putAt cs j (.d (.sl s n f)))) hg' hb2 trivial (Nat.le_refl _) (fun _ _ _ => rfl) ⟨hI, xs, t, hh, by rw [hl, putAt_length], fun i c hc' => by
    rw [putAt_get] at hc'
    split at hc'
    · rename_i hi
      cases hc'
      obtain ⟨rfl, hi⟩ := hi
      obtain ⟨x, hx, hrx⟩ := hr' i _ hj
      obtain ⟨b', hb', hd⟩ := ms_data hc.ok hg hn hrx
      rw [hb] at hb'; cases hb'
      exact ⟨x, hx, hd _ (fun k hk => .inl hk) (fun hcc => .inr ⟨rfl, hcc⟩)⟩
    · exact hr i c hc'⟩
  have hext : Ext base Γ w σ (Γ.also fun k => k = b ∧ ∃ c, Γ.κ id = some c) w (set (set σ id (.row e s m f true)) idb (.box (putAt cs j (.d (.sl s n f))))) :=
    ⟨h2.os, h2.tape, h2.output, h2.size, h2.im, h2.new, h2.ρ, h2.κ, h2.keep, fun k hk => h2.live k (live_set hg' trivial hk)⟩
  refine ⟨_, ⟨h1.size, h1.env, h3, h1.free, h1.le, ?_⟩, hext⟩
  obtain ⟨Ds, d1, d2, d3⟩ := h1.dfs
  refine ⟨Ds, d1, d2, fun D hD => ?_⟩
  obtain ⟨d4, d5, d6, d7⟩ := d3 D hD
  exact ⟨d4, d5, fun hlv => d6 (live_set hg' trivial hlv), d7⟩
section
variable {P : Program} {N base : Nat}
theorem MvQ.frzX {Q : Exit → St → Prop} {x : Exit} {env : List (Nat × V)} {σ : Store} {nx : Nat} (idb j id : Nat) {cs : List C} {n : Nat} {e : TypeId} {s m : Nat} {f : Nat → List D} {fz : Bool} (hbx : get σ idb = some (.box cs)) (hj : cs[j]? = some (.ms id n)) (hg : get σ id = some (.row e s m f fz)) (hn : n ≤ m)
    (k : frS (set (set σ id (.row e s m f true)) idb (.box (putAt cs j (.d (.sl s n f))))) fun σ' => MvQ base Q x ⟨env, σ', nx⟩) : MvQ base Q x ⟨env, σ, nx⟩ := by
  rw [frS_eq] at k
  exact MvQ.from (Mv.freezeX idb j id hbx hj hg hn) k
theorem OpsL.frzX {ops : List LIns} {K : St → Prop} {env : List (Nat × V)} {σ : Store} {nx : Nat} (idb j id : Nat) {cs : List C} {n : Nat} {e : TypeId} {s m : Nat} {f : Nat → List D} {fz : Bool} (hbx : get σ idb = some (.box cs)) (hj : cs[j]? = some (.ms id n)) (hg : get σ id = some (.row e s m f fz)) (hn : n ≤ m)
    (k : frS (set (set σ id (.row e s m f true)) idb (.box (putAt cs j (.d (.sl s n f))))) fun σ' => OpsL P N base ops ⟨env, σ', nx⟩ K) : OpsL P N base ops ⟨env, σ, nx⟩ K := by
  rw [frS_eq] at k
  exact ⟨Ops.from (Mv.freezeX idb j id hbx hj hg hn) k.h⟩
theorem SatL.frzX {c : LCode} {Q : Exit → St → Prop} {env : List (Nat × V)} {σ : Store} {nx : Nat} (idb j id : Nat) {cs : List C} {n : Nat} {e : TypeId} {s m : Nat} {f : Nat → List D} {fz : Bool} (hbx : get σ idb = some (.box cs)) (hj : cs[j]? = some (.ms id n)) (hg : get σ id = some (.row e s m f fz)) (hn : n ≤ m)
    (k : frS (set (set σ id (.row e s m f true)) idb (.box (putAt cs j (.d (.sl s n f))))) fun σ' => SatL P N base c ⟨env, σ', nx⟩ Q) : SatL P N base c ⟨env, σ, nx⟩ Q := by
  rw [frS_eq] at k
  exact ⟨Sat.from (Mv.freezeX idb j id hbx hj hg hn) k.h⟩
theorem nmAt_nil (base : Nat) : nmAt base [] = id := by
  funext i
  unfold nmAt
  split <;> rfl
/-- What a function does to the store that it is given, from its code. -/
theorem CallD.of [m : Mix P] {f : FuncId} {lc : LCode} {rl : List RL} {args vs : List V} {σ σ' : Store} {nx nx' : Nat} (hf : FnOk P f N lc rl) (hN : Nat.ble args.length N = true) (hle : Nat.ble nx nx' = true) (hin : Is nx ⟨argEnv 0 args, σ, nx⟩ ⟨argEnv 0 args, σ, nx⟩ [])
    (h : wp P N nx lc ⟨argEnv 0 args, σ, nx⟩ (RetQ nx rl vs σ' nx')) : CallD P f args σ nx (retV vs) σ' nx' := by
  obtain ⟨hent, own, fn, h1, h2⟩ := hf
  have := hin.wk
  rw [nmAt_nil] at this
  exact CallD.enter h1 hent h2 (Nat.le_of_ble_eq_true hN) (Nat.le_of_ble_eq_true hle) this (Sat.of h)
theorem RetQ.is {nx nx' : Nat} {rl : List RL} {vs : List V} {σ' : Store} {e : Exit} {env : List (Nat × V)} (hres : resAll env σ' rl = some vs) (he : e = .normal ∨ e = .ret := by first | exact .inr rfl | exact .inl rfl) : RetQ nx rl vs σ' nx' e ⟨env, σ', nx'⟩ :=
  ⟨he, vs, hres, rfl, Mv.refl _ _⟩
/-- A call that hands out rows of its own. -/
theorem OpsDL.cd [m : Mix P] {M : List Nat} {acc : List (Bool × List Nat)} {dst : Option Nat} {fop : Operand} {xs : List Operand} {g : Option (Nat × Bool)} {rest : List LIns} {env : List (Nat × V)} {σ σ1 : Store} {nx hi : Nat} {K : St → Prop} {f : FuncId} {args : List V} {v : V}
    (hc : CallD P f args [] nx v σ1 hi) (hf : evo env fop = .c (.fn f [])) (hg : guardOf env g = .run) (ha : RIs (xs.map (evo env)) args)
    (h : putK dst v env fun env' => frS (catS σ1 σ) fun σ' => frNat hi fun hi' => wpD P N base M rest env' σ' hi' none ((false, dom σ1) :: acc) K) : OpsDL P N base M (⟨dst, .call fop xs, g⟩ :: rest) ⟨env, σ, nx⟩ acc K := by
  rw [putK_eq, frS_eq, frNat_eq] at h
  exact ⟨OpsD.call (k := 0) (ks := []) (i := ⟨dst, .call fop xs, g⟩) (st := ⟨env, σ, nx⟩) (σ0 := []) hg rfl hf (by simpa using ha) hc (fun id e h => by simp [get] at h) (OpsD.wp h)⟩
end
end Go.Pw

set_option linter.unusedSimpArgs false
set_option linter.unusedVariables false
set_option maxHeartbeats 4000000
namespace Go.Pw
set_option maxRecDepth 2000
open Go Go.Proofs A1 A2 A3 A4
theorem cd47 {l : List Int} (h : 0 < l.length ∧ l.length ≤ 1000000) : CallD Tryz.prog 47 [.c (ints l)] [] 22 (.c (.ms 22 l.length)) [(22, rowv 3 1 r1 0 l)] 23 :=
  CallD.of (vs := [.c (.ms 22 l.length)]) fn47u rfl rfl ⟨rfl, ⟨.refl _, trivial⟩, trivial⟩ (by
    (repeat' first | (refine Owe.same ?_; first | refine Owe.o ?_ | refine Owe.mk ?_ ?_) | (refine Fork.same ?_; (first | refine fkD ?_ ?_ | refine fkN ?_ ?_ | refine fkM ?_ ?_) <;> intro h) | refine MvQ.stay ?_)
    exact RetQ.is rfl)
/-- The starts, of which some are moved. -/
def mvI (st : List Int) (c m : Int) (i : Nat) : List Int := (List.range st.length).map fun j => if j < i then (st.getD j 0 + m) % c else st.getD j 0
theorem mvI_len {st : List Int} {c m : Int} {i : Nat} : (mvI st c m i).length = st.length := by simp [mvI]
theorem mvI_get {st : List Int} {c m : Int} {i j : Nat} (hj : j < st.length) : (mvI st c m i).getD j 0 = if j < i then (st.getD j 0 + m) % c else st.getD j 0 := by
  rw [mvI, List.getD_eq_getElem?_getD, List.getElem?_map, List.getElem?_range hj]; rfl
theorem mvI_zero {st : List Int} {c m : Int} : mvI st c m 0 = st := by
  refine ext_getD 0 (mvI_len) fun j hj => ?_
  rw [mvI_len] at hj
  rw [mvI_get hj, if_neg (by omega)]
theorem mvI_all {st : List Int} {c m : Int} : mvI st c m st.length = mvS st c m := by
  refine ext_getD 0 (by rw [mvI_len]; simp [mvS]) fun j hj => ?_
  rw [mvI_len] at hj
  rw [mvI_get hj, if_pos hj, mvS_get hj]
theorem set_getD {l : List Int} {i j : Nat} {v : Int} (hi : i < l.length) : (l.set i v).getD j 0 = if i = j then v else l.getD j 0 := by
  simp only [List.getD_eq_getElem?_getD, List.getElem?_set]
  split
  · rename_i h; subst h; simp [hi]
  · rfl
theorem mvI_succ {st : List Int} {c m : Int} {i : Nat} (hi : i < st.length) : mvI st c m (i + 1) = (mvI st c m i).set i ((st.getD i 0 + m) % c) := by
  refine ext_getD 0 (by rw [List.length_set, mvI_len, mvI_len]) fun j hj => ?_
  rw [mvI_len] at hj
  rw [mvI_get hj, set_getD (by rw [mvI_len]; exact hi), mvI_get hj]
  by_cases h : i = j
  · subst h
    rw [if_pos (by omega), if_pos rfl]
  · rw [if_neg h]
    by_cases h2 : j < i
    · rw [if_pos h2, if_pos (by omega)]
    · rw [if_neg h2, if_neg (by omega)]
theorem C29w {l : List Dv} {t : Tn} : DvOk l → PFD Tryz.prog 29 [.c (trs l), tv t] (vi .i64 (biE l t)) := fun hD => by
  obtain ⟨c, st⟩ := t
  have hd : (dvsE l).2 = 0 := dvsE_ok.2 hD
  have hn := hD.n
  obtain ⟨q, hq⟩ : ∃ q, q = biE l (c, st) := ⟨_, rfl⟩
  rw [← hq]
  rw [biE, hd, fst_z] at hq
  simp only at hq
  by_cases h0 : cyE c = 0
  · have hc : 1 ≤ c ∧ c ≤ 40 := (unl0 (by decide)).1 h0
    rw [h0, fst_z] at hq
    by_cases hlen : (st.length : Int) = l.length
    · rw [show unl ((st.length : Int) = l.length) 10 = 0 from (unl0 (by decide)).2 hlen, fst_z, fst_nil, if_pos rfl] at hq
      refine pi1 fn29 ?_
      (repeat' first | (refine Owe.same ?_; first | refine Owe.o ?_ | refine Owe.mk ?_ ?_) | (refine Fork.same ?_; (first | refine fkY ?_ | refine fkF ?_ | ((first | refine fkD ?_ ?_ | refine fkN ?_ ?_ | refine fkM ?_ ?_) <;> intro h))) | ((first | refine OpsL.same ?_ | refine OpsDL.same ?_); first | refine oK C23 rfl rfl rfl ?_) | refine MvQ.stay ?_)
      refine Sat.lp0 (fun k : Nat => [(6, vi .i64 k), (0, .c (trs l)), (3, .c (.rp [dI c, .sl 1 st.length fun i => r1 (st.getD i 0)]))]) (fun k => k ≤ l.length ∧ ∀ i, i < k → stE c (st.getD i 0) = 0) (fun k => l.length - k) 0 ⟨Nat.zero_le _, fun i hi => by omega⟩ (by ((first | refine qen ?_ | refine qvs ?_ | refine qeq ?_ | refine qst ?_ | refine qv ?_ | refine qc ?_ | refine qe ?_ | refine qcs ?_ | skip); (repeat' first | exact rfl | (refine qS ?_; constructor)))) ?_
      intro k hk
      refine Fork.dec (fun hlt => ?_) (fun hlt => ?_)
      · have hlt : k < l.length := by omega
        (repeat' first | (refine Owe.same ?_; first | refine Owe.o ?_ | refine Owe.mk ?_ ?_) | (refine Fork.same ?_; (first | refine fkD ?_ ?_ | refine fkN ?_ ?_ | refine fkM ?_ ?_) <;> intro h) | ((first | refine OpsL.same ?_ | refine OpsDL.same ?_); first | refine pK C14 rfl rfl ?_) | refine MvQ.stay ?_)
        · have h2 : q = 2 := by
            rw [hq]
            exact each2 (stE_02 c) ⟨st.getD k 0, getD_mem 0 (by omega), fun hh => h ((unl0 (by decide)).1 hh)⟩
          rw [h2]
          (refine rqK rfl ?_; (repeat' first | exact rfl | (refine qS ?_; constructor)))
        · refine again0 (k + 1) ⟨hlt, fun i hi => ?_⟩ (by omega) (by ((first | refine qen ?_ | refine qvs ?_ | refine qeq ?_ | refine qst ?_ | refine qv ?_ | refine qc ?_ | refine qe ?_ | refine qcs ?_ | skip); (repeat' first | exact rfl | (refine qS ?_; constructor))))
          rcases Nat.lt_succ_iff_lt_or_eq.1 hi with h9 | rfl
          · exact hk.2 i h9
          · exact (unl0 (by decide)).2 h
      · have h2 : q = 0 := by
          rw [hq]
          refine eachE_ok.2 fun x hx => ?_
          obtain ⟨i, hi, rfl⟩ := List.getElem_of_mem hx
          have := hk.2 i (by omega)
          rwa [List.getD_eq_getElem?_getD, List.getElem?_eq_getElem hi, Option.getD_some] at this
        rw [h2]
        (repeat' first | (refine Owe.same ?_; first | refine Owe.o ?_ | refine Owe.mk ?_ ?_) | (refine Fork.same ?_; (first | refine fkD ?_ ?_ | refine fkN ?_ ?_ | refine fkM ?_ ?_) <;> intro h) | refine MvQ.stay ?_)
        (refine rqK rfl ?_; (repeat' first | exact rfl | (refine qS ?_; constructor)))
    · have e : unl ((st.length : Int) = l.length) 10 = 10 := by rw [unl, decide_eq_false hlen]; rfl
      rw [e, if_neg (by decide)] at hq
      have : q = 10 := hq
      rw [this]
      refine pi1 fn29 ?_
      (repeat' first | (refine Owe.same ?_; first | refine Owe.o ?_ | refine Owe.mk ?_ ?_) | (refine Fork.same ?_; (first | refine fkY ?_ | refine fkF ?_ | ((first | refine fkD ?_ ?_ | refine fkN ?_ ?_ | refine fkM ?_ ?_) <;> intro h))) | ((first | refine OpsL.same ?_ | refine OpsDL.same ?_); first | refine oK C23 rfl rfl rfl ?_) | refine MvQ.stay ?_)
      (refine rqK rfl ?_; (repeat' first | exact rfl | (refine qS ?_; constructor)))
  · rw [fst_c h0, if_neg h0] at hq
    rw [hq]
    refine pi1 fn29 ?_
    (repeat' first | (refine Owe.same ?_; first | refine Owe.o ?_ | refine Owe.mk ?_ ?_) | (refine Fork.same ?_; (first | refine fkY ?_ | refine fkF ?_ | ((first | refine fkD ?_ ?_ | refine fkN ?_ ?_ | refine fkM ?_ ?_) <;> intro h))) | ((first | refine OpsL.same ?_ | refine OpsDL.same ?_); first | refine oK C23 rfl rfl rfl ?_) | refine MvQ.stay ?_)
    (refine rqK rfl ?_; (repeat' first | exact rfl | (refine qS ?_; constructor)))
theorem C5 {l : List Dv} {x : Tn} : PFD Tryz.prog 5 [.c (trs l), tv x] (vbl true) := by
  by_cases hl3 : l.length ≤ 3
  rotate_left
  · refine pi1 fn5 ?_
    (repeat' first | (refine Owe.same ?_; first | refine Owe.o ?_ | refine Owe.mk ?_ ?_) | (refine Fork.same ?_; (first | refine fkY ?_ | refine fkF ?_ | ((first | refine fkD ?_ ?_ | refine fkN ?_ ?_ | refine fkM ?_ ?_) <;> intro h))) | ((first | refine OpsL.same ?_ | refine OpsDL.same ?_); first | refine oK C10 rfl rfl rfl ?_) | refine MvQ.stay ?_)
    (refine rqK rfl ?_; (repeat' first | exact rfl | (refine qS ?_; constructor)))
  have c12 := C12 (l := l)
  by_cases h0 : (dvsE l).2 = 0
  rotate_left
  · generalize (dvsE l).2 = e at *
    refine pi1 fn5 ?_
    (repeat' first | (refine Owe.same ?_; first | refine Owe.o ?_ | refine Owe.mk ?_ ?_) | (refine Fork.same ?_; (first | refine fkY ?_ | refine fkF ?_ | ((first | refine fkD ?_ ?_ | refine fkN ?_ ?_ | refine fkM ?_ ?_) <;> intro h))) | ((first | refine OpsL.same ?_ | refine OpsDL.same ?_); first | refine oK C10 rfl rfl rfl ?_ | refine oK c12 rfl rfl rfl ?_) | refine MvQ.stay ?_)
    (refine rqK rfl ?_; (repeat' first | exact rfl | (refine qS ?_; constructor)))
  rw [h0] at c12
  have hD := dvsE_ok.1 h0
  have c13 := C13 hD
  by_cases hs : (∀ k, k < l.length → win (l.getD k (0, 0, 0)) ≤ 5) ∧ (l.length : Int) ≤ 4
  rotate_left
  · rw [decide_eq_false hs] at c13
    refine pi1 fn5 ?_
    (repeat' first | (refine Owe.same ?_; first | refine Owe.o ?_ | refine Owe.mk ?_ ?_) | (refine Fork.same ?_; (first | refine fkY ?_ | refine fkF ?_ | ((first | refine fkD ?_ ?_ | refine fkN ?_ ?_ | refine fkM ?_ ?_) <;> intro h))) | ((first | refine OpsL.same ?_ | refine OpsDL.same ?_); first | refine oK C10 rfl rfl rfl ?_ | refine oK c12 rfl rfl rfl ?_ | refine oK c13 rfl rfl rfl ?_) | refine MvQ.stay ?_)
    (refine rqK rfl ?_; (repeat' first | exact rfl | (refine qS ?_; constructor)))
  rw [decide_eq_true hs] at c13
  have c29 := C29w (l := l) (t := x) hD
  by_cases h1 : biE l x = 0
  rotate_left
  · generalize biE l x = e at *
    obtain ⟨c, st⟩ := x
    refine pi1 fn5 ?_
    (repeat' first | (refine Owe.same ?_; first | refine Owe.o ?_ | refine Owe.mk ?_ ?_) | (refine Fork.same ?_; (first | refine fkY ?_ | refine fkF ?_ | ((first | refine fkD ?_ ?_ | refine fkN ?_ ?_ | refine fkM ?_ ?_) <;> intro h))) | ((first | refine OpsL.same ?_ | refine OpsDL.same ?_); first | refine oK C10 rfl rfl rfl ?_ | refine oK c12 rfl rfl rfl ?_ | refine oK c13 rfl rfl rfl ?_ | refine oK c29 rfl rfl rfl ?_) | refine MvQ.stay ?_)
    (refine rqK rfl ?_; (repeat' first | exact rfl | (refine qS ?_; constructor)))
  rw [h1] at c29
  have hO := biE_ok.1 h1
  have hn := hD.n
  obtain ⟨k, o, hk, hT, hTO, hTp, hTs⟩ := st_small hD hl3 hs.1
  have c16 := C16 (l := l) (by omega)
  have c17 := C17 (l := l) (by omega)
  rw [shR_ok hD, hT] at c17
  change PFD Tryz.prog 17 [.c (trs l)] (.tup [tv ((k : Int), o), vi .i64 0]) at c17
  have c18 := C18 (l := l) (by omega)
  rw [if_pos h0, if_pos h0, h0] at c18
  have c29T := C29w (l := l) (t := ((k : Int), o)) hD
  rw [biE_ok.2 hTO] at c29T
  have hol : o.length = l.length := hTO.n
  have c27T := C27 (t := ((k : Int), o)) (by show o.length ≤ _; omega)
  have c26T := C26 (l := l) (t := ((k : Int), o)) ⟨by omega, by show o.length ≤ _; omega⟩
  rw [biR, if_pos (biE_ok.2 hTO), hTp] at c26T
  change PFD Tryz.prog 26 _ (.tup [pr (0, 0), vi .i64 12]) at c26T
  obtain ⟨n, hb1, hb2, hb3, hb4⟩ := bd_set hD
  have hkp : -(bdK l).p ≤ k := by
    refine Int.not_lt.1 fun hlt => ?_
    rw [hb2] at hlt
    exact frR_none (no_short (n := n) hD ⟨by omega, by omega⟩ hb3 hlt) hTO hTp
  rw [hb1] at c18
  have hSs : srt (subL l.length n) := srt_of fltL_asc
  have hSm : ∀ y ∈ subL l.length n, 0 ≤ y ∧ y < l.length := fun y hy => subL_mem hy
  have hSl : (subL l.length n).length ≤ l.length := fltL_len _ _
  have hS0 : 0 < (subL l.length n).length := by
    refine Nat.pos_of_ne_zero fun hz => ?_
    rw [hb2, hz] at hb4
    exact absurd hb4 (by simp [wnS])
  have hWb := fun k (hk : k ≤ (subL l.length n).length) => wnS_bd hD hSm k hk
  generalize (bdK l).p = p at *
  generalize hS : subL l.length n = S at *
  subst hb2
  obtain ⟨c, st⟩ := x
  have hstl : st.length = l.length := hO.n
  have hc40 := hO.c
  have hsto := hO.s
  simp only at hc40 hsto
  have c27x := C27 (t := (c, st)) (by show st.length ≤ _; omega)
  have c26x := C26 (l := l) (t := (c, st)) ⟨by omega, by show st.length ≤ _; omega⟩
  rw [biR, if_pos h1] at c26x
  have hmO := mv_ok (m := c / 2) hO
  have hmp := mv_same (m := c / 2) hO
  have hml : (mvS st c (c / 2)).length = st.length := by simp [mvS]
  have c27m := C27 (t := (c, mvS st c (c / 2))) (by show (mvS st c (c / 2)).length ≤ _; omega)
  have c26m := C26 (l := l) (t := (c, mvS st c (c / 2))) ⟨by omega, by show (mvS st c (c / 2)).length ≤ _; omega⟩
  rw [biR, if_pos (biE_ok.2 hmO), hmp] at c26m
  have hT2 : prB l (c, st) ≠ none ∨ (k : Int) ≤ c := by
    by_cases hkc : (k : Int) ≤ c
    · exact .inr hkc
    · left
      have := hTs c.toNat st (by omega)
      rw [show ((c.toNat : Nat) : Int) = c by omega] at this
      exact this hO
  obtain ⟨w, hw⟩ : ∃ w, w = prB l (c, st) := ⟨_, rfl⟩
  rw [← hw] at c26x c26m hT2
  have hB : ((biV w).2 = 0 ∧ w ≠ none) ∨ ((biV w).2 = 12 ∧ w = none) := by
    cases w with
    | none => exact .inr ⟨rfl, rfl⟩
    | some p => exact .inl ⟨rfl, fun h => ((by cases h))⟩
  have hT3 : (biV w).2 = 0 ∨ (k : Int) ≤ c := by
    rcases hT2 with h | h
    · rcases hB with h2 | h2
      · exact .inl h2.1
      · exact absurd h2.2 h
    · exact .inr h
  have hT4 : (biV w).2 = 0 ∨ (biV w).2 = 12 := by
    rcases hB with h | h
    · exact .inl h.1
    · exact .inr h.1
  generalize biV w = B at *
  have hrow := mvI_zero (st := st) (c := c) (m := c / 2)
  have hcd := cd47 (l := st) ⟨by omega, by omega⟩
  have hq : c.tdiv 2 = c / 2 := Int.tdiv_eq_ediv_of_nonneg (by omega)
  have c14 : ∀ i, i < S.length → PFD Tryz.prog 14 [vi .i64 (S.getD i 0), vi .i64 0, vi .i64 (l.length - 1)] (vbl true) := fun i hi => by
    have := hSm _ (getD_mem 0 hi)
    have h := C14 (n := S.getD i 0) (lo := 0) (hi := l.length - 1)
    rwa [decide_eq_true (by omega)] at h
  have c31 : ∀ i j, i < S.length → j < i → PFD Tryz.prog 31 [tr (l.getD (S.getD i 0).toNat (0, 0, 0)), tr (l.getD (S.getD j 0).toNat (0, 0, 0))] (vbl true) := fun i j hi hj => by
    have h1 := hSm _ (getD_mem 0 hi)
    have h2 := hSm _ (getD_mem 0 (show j < S.length by omega))
    have h := C31 (a := l.getD (S.getD i 0).toNat (0, 0, 0)) (b := l.getD (S.getD j 0).toNat (0, 0, 0)) ⟨hD.d _ (by omega), hD.d _ (by omega)⟩
    have h5 := List.all_eq_true.1 (List.all_eq_true.1 hb3 i (List.mem_range.2 hi)) j (List.mem_range.2 hj)
    rw [show dist (l.getD (S.getD i 0).toNat (0, 0, 0)) (l.getD (S.getD j 0).toNat (0, 0, 0)) = true from h5] at h
    exact h
  refine pi1 fn5 ?_
  (repeat' first | (refine Owe.same ?_; first | refine Owe.o ?_ | refine Owe.mk ?_ ?_) | (refine Fork.same ?_; (first | refine fkY ?_ | refine fkF ?_ | ((first | refine fkD ?_ ?_ | refine fkN ?_ ?_ | refine fkM ?_ ?_) <;> intro h))) | ((first | refine OpsL.same ?_ | refine OpsDL.same ?_); first | refine oK C10 rfl rfl rfl ?_ | refine oK c12 rfl rfl rfl ?_ | refine oK c13 rfl rfl rfl ?_ | refine oK c29 rfl rfl rfl ?_ | refine oK c16 rfl rfl rfl ?_ | refine oK c17 rfl rfl rfl ?_ | refine oK c18 rfl rfl rfl ?_ | refine oK c29T rfl rfl rfl ?_) | refine MvQ.stay ?_)
  refine Sat.lp (fun i : Nat => ⟨[(11, vi .i64 i), (10, vi .i64 (-(wnS l S i))), (0, .c (trs l)), (3, .c (.rp [dI c, .sl 1 st.length fun i => r1 (st.getD i 0)])), (5, .c (.bp 0 0)), (7, .c (ints S)), (8, vi .i64 (-(wnS l S S.length)))], [(0, .box [int k, .d (.sl 1 o.length fun i => r1 (o.getD i 0))])], 1⟩)
    (fun i => i ≤ S.length) (fun i => S.length - i) 0 [0] (Nat.zero_le _) ?_ ?_
  · (refine qis ?_ ?_ <;> (repeat' first | exact rfl | (refine qS ?_; constructor)))
  intro i hi
  have hWi := hWb i hi
  refine Fork.dec (fun hlt => ?_) (fun hlt => ?_)
  · have hlt : i < S.length := Int.ofNat_lt.1 hlt
    have c14 := c14 i hlt
    have hm := hSm _ (getD_mem 0 hlt)
    have c32 := C32 (d := l.getD (S.getD i 0).toNat (0, 0, 0)) (hD.d _ (by omega))
    have hwi : 0 ≤ win (l.getD (S.getD i 0).toNat (0, 0, 0)) ∧ win (l.getD (S.getD i 0).toNat (0, 0, 0)) ≤ 5 := ⟨by
      obtain ⟨_, h5, h6⟩ := hD.d (S.getD i 0).toNat (by omega)
      show 0 ≤ (l.getD (S.getD i 0).toNat (0, 0, 0)).2.1 + (l.getD (S.getD i 0).toNat (0, 0, 0)).2.2
      omega, hs.1 _ (by omega)⟩
    have hord : i = 0 ∨ S.getD ((i : Int) - 1).toNat 0 < S.getD (i : Int).toNat 0 := by
      rcases Nat.eq_zero_or_pos i with h | h
      · exact .inl h
      · right
        rw [show ((i : Int) - 1).toNat = i - 1 by omega, Int.toNat_natCast]
        exact hSs (i - 1) i (by omega) hlt
    have hWs : wnS l S (i + 1) = wnS l S i - win (l.getD (S.getD i 0).toNat (0, 0, 0)) := rfl
    (repeat' first | (refine Owe.same ?_; first | refine Owe.o ?_ | refine Owe.mk ?_ ?_) | (refine Fork.same ?_; (first | refine fkY ?_ | refine fkF ?_ | ((first | refine fkD ?_ ?_ | refine fkN ?_ ?_ | refine fkM ?_ ?_) <;> intro h))) | ((first | refine OpsL.same ?_ | refine OpsDL.same ?_); first | refine oK c14 rfl rfl rfl ?_) | refine MvQ.stay ?_)
    all_goals
      refine Sat.lp (fun j : Nat => ⟨[(12, vi .i64 j), (11, vi .i64 i), (10, vi .i64 (-(wnS l S i))), (0, .c (trs l)), (3, .c (.rp [dI c, .sl 1 st.length fun i => r1 (st.getD i 0)])), (5, .c (.bp 0 0)), (7, .c (ints S)), (8, vi .i64 (-(wnS l S S.length)))], [(0, .box [int k, .d (.sl 1 o.length fun i => r1 (o.getD i 0))])], 1⟩)
        (fun j => j ≤ i) (fun j => i - j) 0 [0] (Nat.zero_le _) ?_ ?_
      · (refine qis ?_ ?_ <;> (repeat' first | exact rfl | (refine qS ?_; constructor)))
      intro j hj
      refine Fork.dec (fun hlj => ?_) (fun hlj => ?_)
      · have hlj : j < i := Int.ofNat_lt.1 hlj
        have c31 := c31 i j hlt hlj
        have hmj := hSm _ (getD_mem 0 (show j < S.length by omega))
        (repeat' first | (refine Owe.same ?_; first | refine Owe.o ?_ | refine Owe.mk ?_ ?_) | (refine Fork.same ?_; (first | refine fkY ?_ | refine fkF ?_ | ((first | refine fkD ?_ ?_ | refine fkN ?_ ?_ | refine fkM ?_ ?_) <;> intro h))) | ((first | refine OpsL.same ?_ | refine OpsDL.same ?_); first | refine oK c31 rfl rfl rfl ?_) | refine MvQ.stay ?_)
        refine again (j + 1) [0] hlj (by omega) ?_
        (refine qis ?_ ?_ <;> (repeat' first | exact rfl | (refine qS ?_; constructor)))
      · (repeat' first | (refine Owe.same ?_; first | refine Owe.o ?_ | refine Owe.mk ?_ ?_) | (refine Fork.same ?_; (first | refine fkY ?_ | refine fkF ?_ | ((first | refine fkD ?_ ?_ | refine fkN ?_ ?_ | refine fkM ?_ ?_) <;> intro h))) | ((first | refine OpsL.same ?_ | refine OpsDL.same ?_); first | refine oK c32 rfl rfl rfl ?_) | refine MvQ.stay ?_)
        refine again (i + 1) [0] hlt (by omega) ?_
        rw [hWs]
        (refine qis ?_ ?_ <;> (repeat' first | exact rfl | (refine qS ?_; constructor)))
        omega
  · have hiS : i = S.length := by have : ¬ i < S.length := fun hh => hlt (Int.ofNat_lt.2 hh); omega
    subst hiS
    (repeat' first | (refine Owe.same ?_; first | refine Owe.o ?_ | refine Owe.mk ?_ ?_) | (refine Fork.same ?_; (first | refine fkY ?_ | refine fkF ?_ | ((first | refine fkD ?_ ?_ | refine fkN ?_ ?_ | refine fkM ?_ ?_) <;> intro h))) | ((first | refine OpsL.same ?_ | refine OpsDL.same ?_); first | refine oK c16 rfl rfl rfl ?_ | refine oK c27T rfl rfl rfl ?_ | refine oK c26T rfl rfl rfl ?_) | refine MvQ.stay ?_)
    ((first | refine OpsL.same ?_ | refine OpsDL.same ?_); first | refine pK c27x rfl rfl ?_)
    (repeat' first | (refine Owe.same ?_; first | refine Owe.o ?_ | refine Owe.mk ?_ ?_) | (refine Fork.same ?_; (first | refine fkY ?_ | refine fkF ?_ | ((first | refine fkD ?_ ?_ | refine fkN ?_ ?_ | refine fkM ?_ ?_) <;> intro h))) | ((first | refine OpsL.same ?_ | refine OpsDL.same ?_); first | refine oK c26x rfl rfl rfl ?_) | refine MvQ.stay ?_)
    refine Ops.cs rfl rfl (CallS.of fn27 rfl ?_)
    (repeat' first | (refine Owe.same ?_; first | refine Owe.o ?_ | refine Owe.mk ?_ ?_) | (refine Fork.same ?_; (first | refine fkD ?_ ?_ | refine fkN ?_ ?_ | refine fkM ?_ ?_) <;> intro h) | refine MvQ.stay ?_)
    refine OpsDL.cd hcd rfl rfl (.cons (RI.refl _) .nil) ?_
    (repeat' first | (refine Owe.same ?_; first | refine Owe.o ?_ | refine Owe.mk ?_ ?_) | (refine Fork.same ?_; (first | refine fkD ?_ ?_ | refine fkN ?_ ?_ | refine fkM ?_ ?_) <;> intro h) | refine MvQ.stay ?_)
    refine Sat.lp (fun i : Nat => ⟨[(18, vi .i64 i), (0, .c (trs l)), (3, .c (.rp [dI c, .sl 1 st.length fun i => r1 (st.getD i 0)])), (5, .c (.bp 0 0)), (15, .c (.bp 1 0)), (16, vi .i64 B.2), (17, .c (.bp 2 0))], [(0, .box [int k, .d (.sl 1 o.length fun i => r1 (o.getD i 0))]), (1, .box [int B.1.1, int B.1.2]), (2, .box [int c, .ms 3 (mvI st c (c / 2) i).length]), (3, rowv 3 1 r1 0 (mvI st c (c / 2) i))], 4⟩)
      (fun i => i ≤ l.length) (fun i => l.length - i) 0 [0, 14, 25, 22] (Nat.zero_le _) ?_ ?_
    · rw [hrow]
      (refine qis ?_ ?_ <;> (repeat' first | exact rfl | (refine qS ?_; constructor)))
    intro i hi
    refine Fork.dec (fun hlt => ?_) (fun hlt => ?_)
    · have hlt : i < l.length := Int.ofNat_lt.1 hlt
      have hsi := hsto i (by omega)
      have c33 := C33 (n := st.getD i 0 + c.tdiv 2) (b := c) ⟨by simp only [w64]; omega, hc40.1, by simp only [Md]; omega⟩
      have hli := mvI_len (st := st) (c := c) (m := c / 2) (i := i)
      have hnx := mvI_succ (st := st) (c := c) (m := c / 2) (i := i) (by omega)
      (repeat' first | (refine Owe.same ?_; first | refine Owe.o ?_ | refine Owe.mk ?_ ?_) | (refine Fork.same ?_; (first | refine fkY ?_ | refine fkF ?_ | ((first | refine fkD ?_ ?_ | refine fkN ?_ ?_ | refine fkM ?_ ?_) <;> intro h))) | ((first | refine OpsL.same ?_ | refine OpsDL.same ?_); first | refine oK c33 rfl rfl rfl ?_) | refine MvQ.stay ?_)
      refine again (i + 1) [0, 1, 2, 3] hlt (by omega) ?_
      (refine qis ?_ ?_ <;> (repeat' first | exact rfl | (refine qS ?_; constructor)))
      · rw [mvI_len, mvI_len]
      · exact ⟨_, rfl, by rw [hq, hnx, Int.toNat_natCast]⟩
    · have hil : i = l.length := by have : ¬ i < l.length := fun hh => hlt (Int.ofNat_lt.2 hh); omega
      subst hil
      have e := mvI_all (st := st) (c := c) (m := c / 2)
      rw [hstl] at e
      rw [e]
      refine MvQ.frzX 2 1 3 rfl rfl rfl (Nat.le_refl _) ?_
      rcases hB with ⟨hB0, _⟩ | ⟨hB2, hwn⟩
      · (repeat' first | (refine Owe.same ?_; first | refine Owe.o ?_ | refine Owe.mk ?_ ?_) | (refine Fork.same ?_; (first | refine fkY ?_ | refine fkF ?_ | ((first | refine fkD ?_ ?_ | refine fkN ?_ ?_ | refine fkM ?_ ?_) <;> intro h))) | ((first | refine OpsL.same ?_ | refine OpsDL.same ?_); first | refine oK c16 rfl rfl rfl ?_ | refine oK c27m rfl rfl rfl ?_ | refine oK c26m rfl rfl rfl ?_) | refine MvQ.stay ?_)
        all_goals (refine rqK rfl ?_; (repeat' first | exact rfl | (refine qS ?_; constructor)))
      · obtain ⟨N, hN⟩ : ∃ N : Nat, (N : Int) = c := ⟨c.toNat, by omega⟩
        subst hN
        rw [hwn] at hw
        have c15 := C15 (l := l) (c := N) (by omega)
        rw [ftR_ok hD ⟨by omega, by omega⟩] at c15
        cases hf : frR l N with
        | none => exact absurd hw.symm (frR_none hf hO)
        | some fo =>
          rw [hf] at c15
          change PFD Tryz.prog 15 _ (.tup [tv ((N : Int), fo), vi .i64 0]) at c15
          obtain ⟨hFO, hFp⟩ := frR_some hD ⟨by omega, by omega⟩ hf
          have c29f := C29w (l := l) (t := ((N : Int), fo)) hD
          rw [biE_ok.2 hFO] at c29f
          have hfl : fo.length = l.length := hFO.n
          have c34 := C34 (l := st) (m := fo) ⟨by omega, by omega⟩
          rw [decide_eq_false (frR_min hf hO hw.symm)] at c34
          (repeat' first | (refine Owe.same ?_; first | refine Owe.o ?_ | refine Owe.mk ?_ ?_) | (refine Fork.same ?_; (first | refine fkY ?_ | refine fkF ?_ | ((first | refine fkD ?_ ?_ | refine fkN ?_ ?_ | refine fkM ?_ ?_) <;> intro h))) | ((first | refine OpsL.same ?_ | refine OpsDL.same ?_); first | refine oK c16 rfl rfl rfl ?_ | refine oK c27m rfl rfl rfl ?_ | refine oK c26m rfl rfl rfl ?_ | refine oK c15 rfl rfl rfl ?_ | refine oK c29f rfl rfl rfl ?_ | refine oK c34 rfl rfl rfl ?_) | refine MvQ.stay ?_)
          (refine rqK rfl ?_; (repeat' first | exact rfl | (refine qS ?_; constructor)))
end Go.Pw

namespace Go.Proofs.YtbgikbenhglmkaaGreat
open Go.ChangeShapes Go.WideShapes Go.ChangeAt Go.RowKit Go.Pw
theorem Tryz.own : ownKnob Tryz.prog.godebug = none := by kernel_rfl
theorem Tryz.laidOut : laidOutB Tryz.prog = true := by kernel_rfl
theorem shapes : shAll Tryz.prog [22, 29] = some [(false, [.sl [.int .i64, .int .i64, .int .i64]]), (true, [.int .i64, .sl [.int .i64]])] := by kernel_rfl
theorem law (args : List V) (h : ArgOk [(false, [.sl [.int .i64, .int .i64, .int .i64]]), (true, [.int .i64, .sl [.int .i64]])] args) : PFD Tryz.prog 5 args (vbl true) := by
  match args, h with
  | [v0, v1], ⟨h0, h1, _⟩ =>
    obtain ⟨l0, r0, q0⟩ := arg_trs h0
    obtain ⟨t1, r1, q1⟩ := arg_turns h1
    exact PFD.ri C5 (.cons r0 (.cons r1 .nil))
set_option maxRecDepth 100000 in
theorem lifted (os : Os) (started : os.Started) (H : Type) (enc : TypeId × Value → H) :
    ReturnsInHanded {} Tryz.checked os 5 .any (Rows.sonarNoneBlindSpec.pre6 enc Tryz.prog Tryz.f5 Rows.sonarNoneBlindRow.domain false) (Rows.sonarNoneBlindSpec.post enc Tryz.prog Tryz.f5 false true false false) := by
  refine returnsInHanded_of_change (C := Tryz.checked) Tryz.own started (by kernel_rfl) Tryz.func5
    (ChangeSpec.witness6 (enc := enc) (C := Tryz.checked) false ⟨#[], #[.slice none 0 0, .agg #[.int .i64 0, .slice none 0 0]], []⟩ 8 (by kernel_rfl) (by kernel_rfl) (by kernel_rfl) (by kernel_rfl)) ?_
  intro W base args ds gs before hval0 hW hcnd _
  exact law_calls (P := Tryz.prog) (F := Tryz.f5) (tb := 4) Tryz.laidOut (by rw [Tryz.params5]; exact shapes) rfl (fun ds hl => by
    rw [Tryz.params5] at hl
    match ds, hl with
    | [d0, d1], _ => rfl) (by kernel_rfl) Tryz.underlying4 law W base args ds gs before hval0 hW
theorem row_holds : Rows.SonarNoneBlindSaid :=
  OpenClaim.holds_of_wide 5 Tryz.f5 rfl rfl rfl rfl rfl rfl rfl ⟨rfl, rfl, rfl, rfl, rfl⟩ rfl rfl rfl rfl rfl (by kernel_rfl) Tryz.func5 (by kernel_rfl)
    (of_decide_eq_true (by kernel_rfl)) (by unfold Func.isWrapper; rw [if_neg (by decide +kernel)]; exact ⟨rfl, rfl⟩)
    (fun os started H enc _ => lifted os started H enc)
end Go.Proofs.YtbgikbenhglmkaaGreat
