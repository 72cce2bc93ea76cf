/- Proved here at the end: the row named in the last theorem, on no condition. -/
import Derived.Test.YtbgikbenhglmkaaGreatSonarTurnsD
import Derived.Test.YtbgikbenhglmkaaGreatRows
set_option linter.unusedSimpArgs false
namespace Go.Pw
set_option maxRecDepth 2000
open Go Go.Proofs A1 A2 A3 A4
theorem C86 {g : FuncId} {rows : List (List D)} {f : Int → Int} (hg : ∀ (i : Int) (x : Int), PFD Tryz.prog g (vi .i64 i :: vi .i64 x :: rows.map fun r => .c (.rp r)) (vi .i64 (f x))) {l : List Int} : l.length ≤ 1000000 → PFD Tryz.prog 86 [.c (ints l), .c (.fnR g rows)] (.tup [vi .i64 (eachE f 0 l).1, vi .i64 (eachE f 0 l).2]) := fun hl => by
  refine pi2 fn86 ?_
  (repeat' first | (refine Owe.same ?_; first | refine Owe.o ?_ | refine Owe.mk ?_ ?_) | (refine Fork.same ?_; (first | refine fkD ?_ ?_ | refine fkN ?_ ?_ | refine fkM ?_ ?_) <;> intro h) | refine MvQ.stay ?_)
  refine Sat.lp0 (fun k : Nat => [(11, vi .i64 k), (10, vi .i64 l.length), (9, .c (ints l)), (1, .c (.fnR g rows))]) (fun k => k ≤ l.length ∧ eachE f 0 l = eachE f k (l.drop k)) (fun k => l.length - k) 0 ⟨Nat.zero_le _, rfl⟩ (by ((first | refine qen ?_ | refine qvs ?_ | refine qeq ?_ | refine qst ?_ | refine qv ?_ | refine qc ?_ | refine qe ?_ | refine qcs ?_ | skip); (repeat' first | exact rfl | (refine qS ?_; constructor)))) ?_
  intro k hk
  (repeat' first | (refine Owe.same ?_; first | refine Owe.o ?_ | refine Owe.mk ?_ ?_) | (refine Fork.same ?_; (first | refine fkD ?_ ?_ | refine fkN ?_ ?_ | refine fkM ?_ ?_) <;> intro h) | ((first | refine OpsL.same ?_ | refine OpsDL.same ?_); first | refine pR (hg _ (l.getD k 0)) rfl rfl ?_) | refine MvQ.stay ?_)
  · have e := eachE_drop f 0 l k (by omega)
    have h : ¬ f (l.getD k 0) = 0 := h
    rw [if_neg h, ← hk.2] at e
    (refine rqK rfl ?_; (repeat' first | exact rfl | (refine qS ?_; constructor))) <;> rw [e]
  · have e := eachE_drop f 0 l k (by omega)
    have h : f (l.getD k 0) = 0 := h
    rw [if_pos h, ← hk.2] at e
    exact again0 (k + 1) ⟨by omega, e⟩ (by omega) (by ((first | refine qen ?_ | refine qvs ?_ | refine qeq ?_ | refine qst ?_ | refine qv ?_ | refine qc ?_ | refine qe ?_ | refine qcs ?_ | skip); (repeat' first | exact rfl | (refine qS ?_; constructor))))
  · have e : eachE f 0 l = (0, 0) := by rw [hk.2, List.drop_of_length_le (by omega)]; rfl
    (refine rqK rfl ?_; (repeat' first | exact rfl | (refine qS ?_; constructor))) <;> rw [e]
def stE (c x : Int) : Int := unl (0 ≤ x ∧ x ≤ c - 1) 2
theorem C87 {i x c : Int} {d : D} : (1 ≤ c ∧ c ≤ 40) → PFD Tryz.prog 87 [vi .i64 i, vi .i64 x, .c (.rp [dI c, d])] (vi .i64 (stE c x)) := fun hc => by
  refine pi1 fn87 ?_
  (repeat' first | (refine Owe.same ?_; first | refine Owe.o ?_ | refine Owe.mk ?_ ?_) | (refine Fork.same ?_; (first | refine fkD ?_ ?_ | refine fkN ?_ ?_ | refine fkM ?_ ?_) <;> intro h) | ((first | refine OpsL.same ?_ | refine OpsDL.same ?_); first | refine pK C84 rfl rfl ?_ | refine pK C85 rfl rfl ?_) | refine MvQ.stay ?_)
  (refine rqK rfl ?_; (repeat' first | exact rfl | (refine qS ?_; constructor)))
/-- The error of turns of devices. -/
def biE (l : List Dv) (t : Tn) : Int := if fstE [(dvsE l).2, cyE t.1, unl ((t.2.length : Int) = l.length) 10] = 0 then (eachE (stE t.1) 0 t.2).2 else fstE [(dvsE l).2, cyE t.1, unl ((t.2.length : Int) = l.length) 10]
theorem each2 {f : Int → Int} (hf : ∀ x, f x = 0 ∨ f x = 2) : ∀ {l : List Int} {i : Nat}, (∃ x ∈ l, ¬ f x = 0) → (eachE f i l).2 = 2 := fun {l i} ⟨x, hx, h⟩ => by
  have h2 : ∀ (l : List Int) (i : Nat), (eachE f i l).2 = 0 ∨ (eachE f i l).2 = 2 := fun l => by
    induction l with
    | nil => intro i; left; rfl
    | cons y l ih =>
      intro i
      rw [eachE]
      split
      · exact ih _
      · exact hf y
  rcases h2 l i with h0 | h0
  · exact absurd (eachE_ok.1 h0 x hx) h
  · exact h0
theorem stE_02 (c x : Int) : stE c x = 0 ∨ stE c x = 2 := by rw [stE, unl_eq]; split <;> simp
theorem biE_ok {l : List Dv} {t : Tn} : biE l t = 0 ↔ TnOk l t := by
  constructor
  · intro h
    by_cases h0 : fstE [(dvsE l).2, cyE t.1, unl ((t.2.length : Int) = l.length) 10] = 0
    · rw [biE, if_pos h0] at h
      rw [fst0, fst0, fst0] at h0
      have h1 := dvsE_ok.1 h0.1
      have h2 := (unl0 (by decide)).1 h0.2.1
      have h3 := (unl0 (by decide)).1 h0.2.2.1
      refine ⟨h1, by omega, by omega, fun i hi => ?_⟩
      have := (unl0 (by decide)).1 (eachE_ok.1 h _ (getD_mem 0 hi))
      omega
    · rw [biE, if_neg h0] at h; exact absurd h h0
  · intro h
    have h0 : fstE [(dvsE l).2, cyE t.1, unl ((t.2.length : Int) = l.length) 10] = 0 := by
      rw [fst0, fst0, fst0]
      have := h.c; have := h.n
      exact ⟨dvsE_ok.2 h.d, (unl0 (by decide)).2 (by omega), (unl0 (by decide)).2 (by omega), rfl⟩
    rw [biE, if_pos h0]
    refine eachE_ok.2 fun x hx => ?_
    obtain ⟨i, hi, rfl⟩ := List.getElem_of_mem hx
    have := h.s i hi
    rw [List.getD_eq_getElem?_getD, List.getElem?_eq_getElem hi, Option.getD_some] at this
    exact (unl0 (by decide)).2 (by omega)
/-- What is said of turns. -/
def biV : Option (Nat × Nat) → Pr × Int
  | some p => (((p.1 : Int), (p.2 : Int)), 0)
  | none => ((0, 0), 12)
def biR (l : List Dv) (t : Tn) : Pr × Int := if biE l t = 0 then biV (prB l t) else ((0, 0), biE l t)
theorem C26 {l : List Dv} {t : Tn} : (l.length ≤ 1000000 ∧ t.2.length ≤ 1000000) → PFD Tryz.prog 26 [.c (trs l), tv t] (.tup [pr (biR l t).1, vi .i64 (biR l t).2]) := fun ⟨hl, htl⟩ => by
  have c72 := C72 hl
  by_cases h0 : fstE [(dvsE l).2, cyE t.1, unl ((t.2.length : Int) = l.length) 10] = 0
  · have hcy : 1 ≤ t.1 ∧ t.1 ≤ 40 := by
      rw [fst0, fst0] at h0
      exact (unl0 (by decide)).1 h0.2.1
    have c86 := C86 (g := 87) (rows := [[dI t.1, .sl 1 t.2.length fun i => r1 (t.2.getD i 0)]]) (f := stE t.1) (fun i x => C87 (d := .sl 1 t.2.length fun i => r1 (t.2.getD i 0)) hcy) (l := t.2) htl
    by_cases h1 : biE l t = 0
    · have hO := biE_ok.1 h1
      have he : (eachE (stE t.1) 0 t.2).2 = 0 := by rw [biE, if_pos h0] at h1; exact h1
      rw [he] at c86
      generalize (eachE (stE t.1) 0 t.2).1 = e1 at *
      obtain ⟨q, hq⟩ : ∃ q, q = prB l t := ⟨_, rfl⟩
      have hr : biR l t = biV q := by rw [biR, if_pos h1, hq]
      rw [hr]
      have h5 := hO.d.n
      have hD := hO.d; have hn := hO.n; have hs := hO.s; have hc := hO.c
      obtain ⟨c, st⟩ := t
      simp only at hn hs hc
      refine pi2 fn26 ?_
      (repeat' first | (refine Owe.same ?_; first | refine Owe.o ?_ | refine Owe.mk ?_ ?_) | (refine Fork.same ?_; (first | refine fkD ?_ ?_ | refine fkN ?_ ?_ | refine fkM ?_ ?_) <;> intro h) | ((first | refine OpsL.same ?_ | refine OpsDL.same ?_); first | refine pK c72 rfl rfl ?_ | refine pK C73 rfl rfl ?_ | refine pK C85 rfl rfl ?_ | refine pK C71 rfl rfl ?_) | refine MvQ.stay ?_)
      · exact absurd h0 h
      (repeat' first | (refine Owe.same ?_; first | refine Owe.o ?_ | refine Owe.mk ?_ ?_) | (refine Fork.same ?_; (first | refine fkY ?_ | refine fkF ?_ | ((first | refine fkD ?_ ?_ | refine fkN ?_ ?_ | refine fkM ?_ ?_) <;> intro h))) | ((first | refine OpsL.same ?_ | refine OpsDL.same ?_); first | refine pK c86 rfl rfl ?_) | refine MvQ.stay ?_)
      refine Sat.lp (fun i : Nat => ⟨[(42, vi .i64 i), (41, vi .i64 l.length), (0, .c (trs l)), (3, .c (.rp [dI c, .sl 1 st.length fun i => r1 (st.getD i 0)])), (4, .c (.bp 0 0))], [(0, .box [int 0, int 0])], 1⟩)
        (fun i => i ≤ l.length ∧ q = prR (fun i k => blB l st i k c) l.length (l.length - i)) (fun i => l.length - i) 0 [0] ⟨Nat.zero_le _, hq⟩ ?_ ?_
      · (refine qis ?_ ?_ <;> (repeat' first | exact rfl | (refine qS ?_; constructor)))
      · intro i hi
        refine Fork.dec (fun hlt => ?_) (fun hlt => ?_)
        · have hlt : i < l.length := by omega
          (repeat' first | (refine Owe.same ?_; first | refine Owe.o ?_ | refine Owe.mk ?_ ?_) | (refine Fork.same ?_; (first | refine fkD ?_ ?_ | refine fkN ?_ ?_ | refine fkM ?_ ?_) <;> intro h) | refine MvQ.stay ?_)
          refine Sat.lp (fun k : Nat => ⟨[(10, vi .i64 k), (9, vi .i64 i), (42, vi .i64 i), (41, vi .i64 l.length), (0, .c (trs l)), (3, .c (.rp [dI c, .sl 1 st.length fun i => r1 (st.getD i 0)])), (4, .c (.bp 0 0))], [(0, .box [int 0, int 0])], 1⟩)
            (fun k => (i ≤ k ∧ k ≤ l.length) ∧ fstK (fun k => blB l st i k c) l.length (l.length - i) = fstK (fun k => blB l st i k c) l.length (l.length - k)) (fun k => l.length - k) i [0] ⟨⟨Nat.le_refl _, by omega⟩, rfl⟩ ?_ ?_
          · (refine qis ?_ ?_ <;> (repeat' first | exact rfl | (refine qS ?_; constructor)))
          · intro k hk
            refine Fork.dec (fun hlk => ?_) (fun hlk => ?_)
            · have hlk : k < l.length := by omega
              have hy : blB l st i k c = true → q = some (i, k) := fun h => by
                rw [hi.2]
                exact prR_t hlt (hk.2.trans (fstK_t (f := fun k => blB l st i k c) hlk h))
              have hno : blB l st i k c = false → fstK (fun k => blB l st i k c) l.length (l.length - i) = fstK (fun k => blB l st i k c) l.length (l.length - (k + 1)) := fun h => hk.2.trans (fstK_f (f := fun k => blB l st i k c) hlk h)
              have c88 := C88 (l := l) (st := st) (i := i) (k := k) (c := c) ⟨hD, hc, hs, ⟨hlt, hlk⟩, by omega, by omega⟩
              generalize blB l st i k c = b at *
              (repeat' first | (refine Owe.same ?_; first | refine Owe.o ?_ | refine Owe.mk ?_ ?_) | (refine Fork.same ?_; (first | refine fkD ?_ ?_ | refine fkN ?_ ?_ | refine fkM ?_ ?_) <;> intro h) | ((first | refine OpsL.same ?_ | refine OpsDL.same ?_); first | refine pK c88 rfl rfl ?_) | refine MvQ.stay ?_)
              · rw [hy h]
                (refine rqK rfl ?_; (repeat' first | exact rfl | (refine qS ?_; constructor)))
              · refine again (k + 1) [0] ⟨⟨by omega, hlk⟩, hno h⟩ (by omega) ?_
                (refine qis ?_ ?_ <;> (repeat' first | exact rfl | (refine qS ?_; constructor)))
            · have : k = l.length := by omega
              subst this
              have hno := prR_f (f := fun i k => blB l st i k c) hlt (hk.2.trans (by rw [Nat.sub_self]; rfl))
              (repeat' first | (refine Owe.same ?_; first | refine Owe.o ?_ | refine Owe.mk ?_ ?_) | (refine Fork.same ?_; (first | refine fkD ?_ ?_ | refine fkN ?_ ?_ | refine fkM ?_ ?_) <;> intro h) | refine MvQ.stay ?_)
              refine again (i + 1) [0] ⟨hlt, hi.2.trans hno⟩ (by omega) ?_
              (refine qis ?_ ?_ <;> (repeat' first | exact rfl | (refine qS ?_; constructor)))
        · have : i = l.length := by omega
          subst this
          have : q = none := by rw [hi.2, Nat.sub_self]; rfl
          rw [this]
          (repeat' first | (refine Owe.same ?_; first | refine Owe.o ?_ | refine Owe.mk ?_ ?_) | (refine Fork.same ?_; (first | refine fkD ?_ ?_ | refine fkN ?_ ?_ | refine fkM ?_ ?_) <;> intro h) | refine MvQ.stay ?_)
          (refine rqK rfl ?_; (repeat' first | exact rfl | (refine qS ?_; constructor)))
    · have he : biE l t = (eachE (stE t.1) 0 t.2).2 := by rw [biE, if_pos h0]
      rw [biR, if_neg h1, he]
      rw [he] at h1
      refine pi2 fn26 ?_
      (repeat' first | (refine Owe.same ?_; first | refine Owe.o ?_ | refine Owe.mk ?_ ?_) | (refine Fork.same ?_; (first | refine fkD ?_ ?_ | refine fkN ?_ ?_ | refine fkM ?_ ?_) <;> intro h) | ((first | refine OpsL.same ?_ | refine OpsDL.same ?_); first | refine pK c72 rfl rfl ?_ | refine pK C73 rfl rfl ?_ | refine pK C85 rfl rfl ?_ | refine pK C71 rfl rfl ?_) | refine MvQ.stay ?_)
      · exact absurd h0 h
      (repeat' first | (refine Owe.same ?_; first | refine Owe.o ?_ | refine Owe.mk ?_ ?_) | (refine Fork.same ?_; (first | refine fkD ?_ ?_ | refine fkN ?_ ?_ | refine fkM ?_ ?_) <;> intro h) | ((first | refine OpsL.same ?_ | refine OpsDL.same ?_); first | refine pK c86 rfl rfl ?_) | refine MvQ.stay ?_)
      · (refine rqK rfl ?_; (repeat' first | exact rfl | (refine qS ?_; constructor)))
      · exact absurd h h1
  · have he : biE l t = fstE [(dvsE l).2, cyE t.1, unl ((t.2.length : Int) = l.length) 10] := by rw [biE, if_neg h0]
    rw [biR, he, if_neg h0]
    refine pi2 fn26 ?_
    (repeat' first | (refine Owe.same ?_; first | refine Owe.o ?_ | refine Owe.mk ?_ ?_) | (refine Fork.same ?_; (first | refine fkD ?_ ?_ | refine fkN ?_ ?_ | refine fkM ?_ ?_) <;> intro h) | ((first | refine OpsL.same ?_ | refine OpsDL.same ?_); first | refine pK c72 rfl rfl ?_ | refine pK C73 rfl rfl ?_ | refine pK C85 rfl rfl ?_ | refine pK C71 rfl rfl ?_) | refine MvQ.stay ?_)
    · (refine rqK rfl ?_; (repeat' first | exact rfl | (refine qS ?_; constructor)))
    · exact absurd h h0
end Go.Pw

set_option linter.unusedSimpArgs false
set_option maxHeartbeats 2000000
namespace Go.Pw
set_option maxRecDepth 2000
open Go Go.Proofs A1 A2 A3 A4
theorem C29 {l : List Dv} {t : Tn} : (DvOk l ∧ t.2.length ≤ 1000000) → PFD Tryz.prog 29 [.c (trs l), tv t] (vi .i64 (biE l t)) := fun ⟨hD, htl⟩ => by
  obtain ⟨c, st⟩ := t
  simp only at htl
  have hd : (dvsE l).2 = 0 := dvsE_ok.2 hD
  have hn := hD.n
  obtain ⟨q, hq⟩ : ∃ q, q = biE l (c, st) := ⟨_, rfl⟩
  rw [← hq]
  rw [biE, hd, fst_z] at hq
  simp only at hq
  by_cases h0 : cyE c = 0
  · have hc : 1 ≤ c ∧ c ≤ 40 := (unl0 (by decide)).1 h0
    rw [h0, fst_z] at hq
    by_cases hlen : (st.length : Int) = l.length
    · rw [show unl ((st.length : Int) = l.length) 10 = 0 from (unl0 (by decide)).2 hlen, fst_z, fst_nil, if_pos rfl] at hq
      refine pi1 fn29 ?_
      (repeat' first | (refine Owe.same ?_; first | refine Owe.o ?_ | refine Owe.mk ?_ ?_) | (refine Fork.same ?_; (first | refine fkY ?_ | refine fkF ?_ | ((first | refine fkD ?_ ?_ | refine fkN ?_ ?_ | refine fkM ?_ ?_) <;> intro h))) | ((first | refine OpsL.same ?_ | refine OpsDL.same ?_); first | refine oK C23 rfl rfl rfl ?_) | refine MvQ.stay ?_)
      refine Sat.lp0 (fun k : Nat => [(6, vi .i64 k), (0, .c (trs l)), (3, .c (.rp [dI c, .sl 1 st.length fun i => r1 (st.getD i 0)]))]) (fun k => k ≤ l.length ∧ ∀ i, i < k → stE c (st.getD i 0) = 0) (fun k => l.length - k) 0 ⟨Nat.zero_le _, fun i hi => by omega⟩ (by ((first | refine qen ?_ | refine qvs ?_ | refine qeq ?_ | refine qst ?_ | refine qv ?_ | refine qc ?_ | refine qe ?_ | refine qcs ?_ | skip); (repeat' first | exact rfl | (refine qS ?_; constructor)))) ?_
      intro k hk
      refine Fork.dec (fun hlt => ?_) (fun hlt => ?_)
      · have hlt : k < l.length := by omega
        (repeat' first | (refine Owe.same ?_; first | refine Owe.o ?_ | refine Owe.mk ?_ ?_) | (refine Fork.same ?_; (first | refine fkD ?_ ?_ | refine fkN ?_ ?_ | refine fkM ?_ ?_) <;> intro h) | ((first | refine OpsL.same ?_ | refine OpsDL.same ?_); first | refine pK C14 rfl rfl ?_) | refine MvQ.stay ?_)
        · have h2 : q = 2 := by
            rw [hq]
            exact each2 (stE_02 c) ⟨st.getD k 0, getD_mem 0 (by omega), fun hh => h ((unl0 (by decide)).1 hh)⟩
          rw [h2]
          (refine rqK rfl ?_; (repeat' first | exact rfl | (refine qS ?_; constructor)))
        · refine again0 (k + 1) ⟨hlt, fun i hi => ?_⟩ (by omega) (by ((first | refine qen ?_ | refine qvs ?_ | refine qeq ?_ | refine qst ?_ | refine qv ?_ | refine qc ?_ | refine qe ?_ | refine qcs ?_ | skip); (repeat' first | exact rfl | (refine qS ?_; constructor))))
          rcases Nat.lt_succ_iff_lt_or_eq.1 hi with h9 | rfl
          · exact hk.2 i h9
          · exact (unl0 (by decide)).2 h
      · have h2 : q = 0 := by
          rw [hq]
          refine eachE_ok.2 fun x hx => ?_
          obtain ⟨i, hi, rfl⟩ := List.getElem_of_mem hx
          have := hk.2 i (by omega)
          rwa [List.getD_eq_getElem?_getD, List.getElem?_eq_getElem hi, Option.getD_some] at this
        rw [h2]
        (repeat' first | (refine Owe.same ?_; first | refine Owe.o ?_ | refine Owe.mk ?_ ?_) | (refine Fork.same ?_; (first | refine fkD ?_ ?_ | refine fkN ?_ ?_ | refine fkM ?_ ?_) <;> intro h) | refine MvQ.stay ?_)
        (refine rqK rfl ?_; (repeat' first | exact rfl | (refine qS ?_; constructor)))
    · have e : unl ((st.length : Int) = l.length) 10 = 10 := by rw [unl, decide_eq_false hlen]; rfl
      rw [e, if_neg (by decide)] at hq
      have : q = 10 := hq
      rw [this]
      refine pi1 fn29 ?_
      (repeat' first | (refine Owe.same ?_; first | refine Owe.o ?_ | refine Owe.mk ?_ ?_) | (refine Fork.same ?_; (first | refine fkY ?_ | refine fkF ?_ | ((first | refine fkD ?_ ?_ | refine fkN ?_ ?_ | refine fkM ?_ ?_) <;> intro h))) | ((first | refine OpsL.same ?_ | refine OpsDL.same ?_); first | refine oK C23 rfl rfl rfl ?_) | refine MvQ.stay ?_)
      (refine rqK rfl ?_; (repeat' first | exact rfl | (refine qS ?_; constructor)))
  · rw [fst_c h0, if_neg h0] at hq
    rw [hq]
    refine pi1 fn29 ?_
    (repeat' first | (refine Owe.same ?_; first | refine Owe.o ?_ | refine Owe.mk ?_ ?_) | (refine Fork.same ?_; (first | refine fkY ?_ | refine fkF ?_ | ((first | refine fkD ?_ ?_ | refine fkN ?_ ?_ | refine fkM ?_ ?_) <;> intro h))) | ((first | refine OpsL.same ?_ | refine OpsDL.same ?_); first | refine oK C23 rfl rfl rfl ?_) | refine MvQ.stay ?_)
    (refine rqK rfl ?_; (repeat' first | exact rfl | (refine qS ?_; constructor)))
theorem C4 {l : List Dv} {t : Tn} : PFD Tryz.prog 4 [.c (trs l), tv t] (vbl true) := by
  by_cases hP : l.length ≤ 7 ∧ t.2.length ≤ 7
  · obtain ⟨hl, ht⟩ := hP
    have c16 := C16 (l := l) (by omega)
    have c25 := C25 (l := l) (by omega)
    have c27 := C27 (t := t) (by omega)
    have c26 := C26 (l := l) (t := t) ⟨by omega, by omega⟩
    have c28 := C28 (l := l)
    by_cases h0 : (dvsE l).2 = 0
    · have hD := dvsE_ok.1 h0
      rw [dvsE_z h0] at c25 c28
      have c29 := C29 (l := l) (t := t) ⟨hD, by omega⟩
      by_cases h1 : biE l t = 0
      · have c30 := C30 (biE_ok.1 h1)
        rw [biR, if_pos h1] at c26
        rw [h1] at c29
        obtain ⟨o, ho⟩ : ∃ o, o = prB l t := ⟨_, rfl⟩
        rw [← ho] at c26 c30
        rcases o with _ | ⟨i, k⟩
        · simp only [biV, Option.isSome] at c26 c30
          refine pi1 fn4 ?_
          (repeat' first | (refine Owe.same ?_; first | refine Owe.o ?_ | refine Owe.mk ?_ ?_) | (refine Fork.same ?_; (first | refine fkY ?_ | refine fkF ?_ | ((first | refine fkD ?_ ?_ | refine fkN ?_ ?_ | refine fkM ?_ ?_) <;> intro h))) | ((first | refine OpsL.same ?_ | refine OpsDL.same ?_); first | refine oK C10 rfl rfl rfl ?_ | refine oK C11 rfl rfl rfl ?_ | refine oK c16 rfl rfl rfl ?_ | refine oK c25 rfl rfl rfl ?_ | refine oK c27 rfl rfl rfl ?_ | refine oK c26 rfl rfl rfl ?_ | refine oK c28 rfl rfl rfl ?_ | refine oK c29 rfl rfl rfl ?_ | refine oK c30 rfl rfl rfl ?_) | refine MvQ.stay ?_)
          all_goals (refine rqK rfl ?_; (repeat' first | exact rfl | (refine qS ?_; constructor)))
          all_goals first | rfl | simp
        · simp only [biV, Option.isSome] at c26 c30
          refine pi1 fn4 ?_
          (repeat' first | (refine Owe.same ?_; first | refine Owe.o ?_ | refine Owe.mk ?_ ?_) | (refine Fork.same ?_; (first | refine fkY ?_ | refine fkF ?_ | ((first | refine fkD ?_ ?_ | refine fkN ?_ ?_ | refine fkM ?_ ?_) <;> intro h))) | ((first | refine OpsL.same ?_ | refine OpsDL.same ?_); first | refine oK C10 rfl rfl rfl ?_ | refine oK C11 rfl rfl rfl ?_ | refine oK c16 rfl rfl rfl ?_ | refine oK c25 rfl rfl rfl ?_ | refine oK c27 rfl rfl rfl ?_ | refine oK c26 rfl rfl rfl ?_ | refine oK c28 rfl rfl rfl ?_ | refine oK c29 rfl rfl rfl ?_ | refine oK c30 rfl rfl rfl ?_) | refine MvQ.stay ?_)
          all_goals (refine rqK rfl ?_; (repeat' first | exact rfl | (refine qS ?_; constructor)))
          all_goals first | rfl | simp
      · rw [biR, if_neg h1] at c26
        generalize biE l t = e at *
        refine pi1 fn4 ?_
        (repeat' first | (refine Owe.same ?_; first | refine Owe.o ?_ | refine Owe.mk ?_ ?_) | (refine Fork.same ?_; (first | refine fkY ?_ | refine fkF ?_ | ((first | refine fkD ?_ ?_ | refine fkN ?_ ?_ | refine fkM ?_ ?_) <;> intro h))) | ((first | refine OpsL.same ?_ | refine OpsDL.same ?_); first | refine oK C10 rfl rfl rfl ?_ | refine oK C11 rfl rfl rfl ?_ | refine oK c16 rfl rfl rfl ?_ | refine oK c25 rfl rfl rfl ?_ | refine oK c27 rfl rfl rfl ?_ | refine oK c26 rfl rfl rfl ?_ | refine oK c28 rfl rfl rfl ?_ | refine oK c29 rfl rfl rfl ?_) | refine MvQ.stay ?_)
        all_goals (refine rqK rfl ?_; (repeat' first | exact rfl | (refine qS ?_; constructor)))
        all_goals first | rfl | simp
    · have e : biE l t = (dvsE l).2 := by rw [biE, fst_c h0, if_neg h0]
      rw [biR, e, if_neg h0] at c26
      generalize (dvsE l).2 = e at *
      refine pi1 fn4 ?_
      (repeat' first | (refine Owe.same ?_; first | refine Owe.o ?_ | refine Owe.mk ?_ ?_) | (refine Fork.same ?_; (first | refine fkY ?_ | refine fkF ?_ | ((first | refine fkD ?_ ?_ | refine fkN ?_ ?_ | refine fkM ?_ ?_) <;> intro h))) | ((first | refine OpsL.same ?_ | refine OpsDL.same ?_); first | refine oK C10 rfl rfl rfl ?_ | refine oK C11 rfl rfl rfl ?_ | refine oK c16 rfl rfl rfl ?_ | refine oK c25 rfl rfl rfl ?_ | refine oK c27 rfl rfl rfl ?_ | refine oK c26 rfl rfl rfl ?_ | refine oK c28 rfl rfl rfl ?_) | refine MvQ.stay ?_)
      all_goals (refine rqK rfl ?_; (repeat' first | exact rfl | (refine qS ?_; constructor)))
      all_goals first | rfl | simp
  · refine pi1 fn4 ?_
    (repeat' first | (refine Owe.same ?_; first | refine Owe.o ?_ | refine Owe.mk ?_ ?_) | (refine Fork.same ?_; (first | refine fkY ?_ | refine fkF ?_ | ((first | refine fkD ?_ ?_ | refine fkN ?_ ?_ | refine fkM ?_ ?_) <;> intro h))) | ((first | refine OpsL.same ?_ | refine OpsDL.same ?_); first | refine oK C10 rfl rfl rfl ?_ | refine oK C11 rfl rfl rfl ?_) | refine MvQ.stay ?_)
    all_goals (refine rqK rfl ?_; (repeat' first | exact rfl | (refine qS ?_; constructor)))
end Go.Pw

namespace Go.Proofs.YtbgikbenhglmkaaGreat
open Go.ChangeShapes Go.WideShapes Go.ChangeAt Go.RowKit Go.Pw
theorem Tryz.own : ownKnob Tryz.prog.godebug = none := by kernel_rfl
theorem Tryz.laidOut : laidOutB Tryz.prog = true := by kernel_rfl
theorem shapes : shAll Tryz.prog [22, 29] = some [(false, [.sl [.int .i64, .int .i64, .int .i64]]), (true, [.int .i64, .sl [.int .i64]])] := by kernel_rfl
theorem law (args : List V) (h : ArgOk [(false, [.sl [.int .i64, .int .i64, .int .i64]]), (true, [.int .i64, .sl [.int .i64]])] args) : PFD Tryz.prog 4 args (vbl true) := by
  match args, h with
  | [v0, v1], ⟨h0, h1, _⟩ =>
    obtain ⟨l0, r0, q0⟩ := arg_trs h0
    obtain ⟨t1, r1, q1⟩ := arg_turns h1
    exact PFD.ri C4 (.cons r0 (.cons r1 .nil))
set_option maxRecDepth 100000 in
theorem lifted (os : Os) (started : os.Started) (H : Type) (enc : TypeId × Value → H) :
    ReturnsInHanded {} Tryz.checked os 4 .any (Rows.sonarTurnsSpec.pre6 enc Tryz.prog Tryz.f4 Rows.sonarTurnsRow.domain false) (Rows.sonarTurnsSpec.post enc Tryz.prog Tryz.f4 false true false false) := by
  refine returnsInHanded_of_change (C := Tryz.checked) Tryz.own started (by kernel_rfl) Tryz.func4
    (ChangeSpec.witness6 (enc := enc) (C := Tryz.checked) false ⟨#[], #[.slice none 0 0, .agg #[.int .i64 0, .slice none 0 0]], []⟩ 8 (by kernel_rfl) (by kernel_rfl) (by kernel_rfl) (by kernel_rfl)) ?_
  intro W base args ds gs before hval0 hW hcnd _
  exact law_calls (P := Tryz.prog) (F := Tryz.f4) (tb := 4) Tryz.laidOut (by rw [Tryz.params4]; exact shapes) rfl (fun ds hl => by
    rw [Tryz.params4] at hl
    match ds, hl with
    | [d0, d1], _ => rfl) (by kernel_rfl) Tryz.underlying4 law W base args ds gs before hval0 hW
theorem row_holds : Rows.SonarTurnsSaid :=
  OpenClaim.holds_of_wide 4 Tryz.f4 rfl rfl rfl rfl rfl rfl rfl ⟨rfl, rfl, rfl, rfl, rfl⟩ rfl rfl rfl rfl rfl (by kernel_rfl) Tryz.func4 (by kernel_rfl)
    (of_decide_eq_true (by kernel_rfl)) (by unfold Func.isWrapper; rw [if_neg (by decide +kernel)]; exact ⟨rfl, rfl⟩)
    (fun os started H enc _ => lifted os started H enc)
end Go.Proofs.YtbgikbenhglmkaaGreat
