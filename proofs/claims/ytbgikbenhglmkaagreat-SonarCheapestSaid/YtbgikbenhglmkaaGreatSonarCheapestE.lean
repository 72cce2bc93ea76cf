/- Proved here at the end: the row named in the last theorem, on no condition. -/
import Derived.Test.YtbgikbenhglmkaaGreatSonarCheapestD
import Derived.Test.YtbgikbenhglmkaaGreatRows
set_option linter.unusedSimpArgs false
namespace Go.Pw
set_option maxRecDepth 2000
open Go Go.Proofs A1 A2 A3 A4
/-- The cell of a wanted number. -/
abbrev celI (w n : Int) : Cel := (n.tmod w, n.tdiv w)
def seesB (x : Se) (v : Nat) (n : Int) : Bool := decide (celI x.1 n ∈ crS (x.2.2.1.getD v vwd).1)
theorem C116 {x : Se} {v : Nat} {n : Int} : (SeOk x ∧ v < x.2.2.1.length ∧ 0 ≤ n ∧ n ≤ x.1 * x.2.1 - 1) → PFD Tryz.prog 116 [sev x, vi .i64 v, vi .i64 n] (vbl (seesB x v n)) := fun ⟨hO, hv, hn⟩ => by
  have hw := hO.w; have hh := hO.h
  have mwg := hO.wg
  have ht0 : 0 ≤ n.tmod x.1 ∧ n.tmod x.1 < x.1 := ⟨Int.tmod_nonneg _ (by omega), Int.tmod_lt_of_pos _ (by omega)⟩
  have htd : n.tdiv x.1 = n / x.1 := Int.tdiv_eq_ediv_of_nonneg (by omega)
  have ht1 : 0 ≤ n / x.1 := Int.ediv_nonneg (by omega) (by omega)
  have ht2 : n / x.1 ≤ n := Int.ediv_le_self _ (by omega)
  have ht3 : n / x.1 < x.2.1 := Int.ediv_lt_of_lt_mul (by omega) (by rw [Int.mul_comm]; omega)
  have hry := (hO.v v hv).1
  have hr12 : ryOk (x.2.2.1.getD v vwd).1 12 12 := by simp only [ryOk, inG] at hry ⊢; omega
  have hin : inG (celI x.1 n) 12 12 := by refine ⟨⟨ht0.1, ?_⟩, ?_, ?_⟩ <;> (simp only [celI]; omega)
  have c123 := C123 (r := (x.2.2.1.getD v vwd).1) (c := celI x.1 n) ⟨hr12, hin⟩
  have hn10 := hO.n
  rw [seesB]
  refine pi1 fn116 ?_
  (repeat' first | (refine Owe.same ?_; first | refine Owe.o ?_ | refine Owe.mk ?_ ?_) | (refine Fork.same ?_; (first | refine fkD ?_ ?_ | refine fkN ?_ ?_ | refine fkM ?_ ?_) <;> intro h) | ((first | refine OpsL.same ?_ | refine OpsDL.same ?_); first | refine pK c123 rfl rfl ?_) | refine MvQ.stay ?_)
  (refine rqK rfl ?_; (repeat' first | exact rfl | (refine qS ?_; constructor)))
theorem C53 {x : Se} {t : List Int} : (SeOk x ∧ t.length ≤ 1000000 ∧ ∀ y ∈ t, 0 ≤ y ∧ y < x.2.2.1.length) → PFD Tryz.prog 53 [sev x, .c (ints t)] (vi .i64 (cvC x.2.2.1 t t.length)) := fun ⟨hO, ht, hx⟩ => by
  have hn10 := hO.n
  have hb : ∀ i, 0 ≤ (x.2.2.1.getD i vwd).2 ∧ (x.2.2.1.getD i vwd).2 ≤ 1000 := fun i => by
    by_cases hi : i < x.2.2.1.length
    · exact (hO.v i hi).2
    · rw [List.getD_eq_getElem?_getD, List.getElem?_eq_none (by omega)]; decide
  have hcb := cvC_bd (l := x.2.2.1) (t := t) hb
  refine pi1 fn53 ?_
  (repeat' first | (refine Owe.same ?_; first | refine Owe.o ?_ | refine Owe.mk ?_ ?_) | (refine Fork.same ?_; (first | refine fkD ?_ ?_ | refine fkN ?_ ?_ | refine fkM ?_ ?_) <;> intro h) | refine MvQ.stay ?_)
  refine Sat.lp0 (fun k : Nat => [(6, vi .i64 k), (2, .c (.rp (seD x))), (1, .c (ints t)), (5, vi .i64 (cvC x.2.2.1 t k))]) (fun k => k ≤ t.length) (fun k => t.length - k) 0 (Nat.zero_le _) (by ((first | refine qen ?_ | refine qvs ?_ | refine qeq ?_ | refine qst ?_ | refine qv ?_ | refine qc ?_ | refine qe ?_ | refine qcs ?_ | skip); (repeat' first | exact rfl | (refine qS ?_; constructor)))) ?_
  intro k hk
  refine Fork.dec (fun hlt => ?_) (fun hlt => ?_)
  · have hlt : k < t.length := by omega
    have h1 := hx _ (getD_mem 0 hlt)
    have h2 := hcb k
    have h3 := hb (t.getD k 0).toNat
    (repeat' first | (refine Owe.same ?_; first | refine Owe.o ?_ | refine Owe.mk ?_ ?_) | (refine Fork.same ?_; (first | refine fkD ?_ ?_ | refine fkN ?_ ?_ | refine fkM ?_ ?_) <;> intro h) | refine MvQ.stay ?_)
    refine again0 (k + 1) hlt (by omega) ?_
    rw [cvC]
    ((first | refine qen ?_ | refine qvs ?_ | refine qeq ?_ | refine qst ?_ | refine qv ?_ | refine qc ?_ | refine qe ?_ | refine qcs ?_ | skip); (repeat' first | exact rfl | (refine qS ?_; constructor)))
  · have : k = t.length := by omega
    subst this
    (repeat' first | (refine Owe.same ?_; first | refine Owe.o ?_ | refine Owe.mk ?_ ?_) | (refine Fork.same ?_; (first | refine fkD ?_ ?_ | refine fkN ?_ ?_ | refine fkM ?_ ?_) <;> intro h) | refine MvQ.stay ?_)
    (refine rqK rfl ?_; (repeat' first | exact rfl | (refine qS ?_; constructor)))
def covB (x : Se) (t : List Int) (i : Nat) : Bool := (List.range t.length).any fun k => seesB x (t.getD k 0).toNat (x.2.2.2.getD i 0)
def cvrB (x : Se) (t : List Int) : Bool := (List.range x.2.2.2.length).all (covB x t)
theorem any_succ (f : Nat → Bool) (k : Nat) : (List.range (k + 1)).any f = ((List.range k).any f || f k) := by
  rw [List.range_succ, List.any_append]; simp
theorem C52 {x : Se} {t : List Int} : (SeOk x ∧ t.length ≤ 1000000 ∧ ∀ y ∈ t, 0 ≤ y ∧ y < x.2.2.1.length) → PFD Tryz.prog 52 [sev x, .c (ints t)] (vbl (cvrB x t)) := fun ⟨hO, ht, hx⟩ => by
  have hml := hO.len
  obtain ⟨q, hq⟩ : ∃ q, q = cvrB x t := ⟨_, rfl⟩
  rw [← hq]
  refine pi1 fn52 ?_
  (repeat' first | (refine Owe.same ?_; first | refine Owe.o ?_ | refine Owe.mk ?_ ?_) | (refine Fork.same ?_; (first | refine fkD ?_ ?_ | refine fkN ?_ ?_ | refine fkM ?_ ?_) <;> intro h) | refine MvQ.stay ?_)
  refine Sat.lp0 (fun i : Nat => [(5, vi .i64 i), (2, .c (.rp (seD x))), (1, .c (ints t))]) (fun i => i ≤ x.2.2.2.length ∧ ∀ j, j < i → covB x t j = true) (fun i => x.2.2.2.length - i) 0 ⟨Nat.zero_le _, fun j hj => by omega⟩ (by ((first | refine qen ?_ | refine qvs ?_ | refine qeq ?_ | refine qst ?_ | refine qv ?_ | refine qc ?_ | refine qe ?_ | refine qcs ?_ | skip); (repeat' first | exact rfl | (refine qS ?_; constructor)))) ?_
  intro i hi
  refine Fork.dec (fun hlt => ?_) (fun hlt => ?_)
  · have hlt : i < x.2.2.2.length := by omega
    have hm := hO.m _ (getD_mem 0 hlt)
    (repeat' first | (refine Owe.same ?_; first | refine Owe.o ?_ | refine Owe.mk ?_ ?_) | (refine Fork.same ?_; (first | refine fkD ?_ ?_ | refine fkN ?_ ?_ | refine fkM ?_ ?_) <;> intro h) | refine MvQ.stay ?_)
    refine Sat.lp0 (fun k : Nat => [(7, vi .i64 k), (6, vbl ((List.range k).any fun k => seesB x (t.getD k 0).toNat (x.2.2.2.getD i 0))), (5, vi .i64 i), (2, .c (.rp (seD x))), (1, .c (ints t))]) (fun k => k ≤ t.length) (fun k => t.length - k) 0 (Nat.zero_le _) ?_ ?_
    · simp only [List.range_zero, List.any_nil]; ((first | refine qen ?_ | refine qvs ?_ | refine qeq ?_ | refine qst ?_ | refine qv ?_ | refine qc ?_ | refine qe ?_ | refine qcs ?_ | skip); (repeat' first | exact rfl | (refine qS ?_; constructor)))
    · intro k hk
      refine Fork.dec (fun hlk => ?_) (fun hlk => ?_)
      · have hlk : k < t.length := by omega
        have h1 := hx _ (getD_mem 0 hlk)
        have c116 := C116 (x := x) (v := (t.getD k 0).toNat) (n := x.2.2.2.getD i 0) ⟨hO, by omega, hm.1, hm.2⟩
        rw [show (((t.getD k 0).toNat : Nat) : Int) = t.getD k 0 by omega] at c116
        have e := any_succ (fun k => seesB x (t.getD k 0).toNat (x.2.2.2.getD i 0)) k
        generalize seesB x (t.getD k 0).toNat (x.2.2.2.getD i 0) = b at *
        generalize (List.range k).any (fun k => seesB x (t.getD k 0).toNat (x.2.2.2.getD i 0)) = a at *
        (repeat' first | (refine Owe.same ?_; first | refine Owe.o ?_ | refine Owe.mk ?_ ?_) | (refine Fork.same ?_; (first | refine fkD ?_ ?_ | refine fkN ?_ ?_ | refine fkM ?_ ?_) <;> intro h) | ((first | refine OpsL.same ?_ | refine OpsDL.same ?_); first | refine pK c116 rfl rfl ?_) | refine MvQ.stay ?_)
        · refine again0 (k + 1) hlk (by omega) ?_
          rw [e, h, Bool.true_or]; ((first | refine qen ?_ | refine qvs ?_ | refine qeq ?_ | refine qst ?_ | refine qv ?_ | refine qc ?_ | refine qe ?_ | refine qcs ?_ | skip); (repeat' first | exact rfl | (refine qS ?_; constructor)))
        · refine again0 (k + 1) hlk (by omega) ?_
          rw [e, h, Bool.false_or]; ((first | refine qen ?_ | refine qvs ?_ | refine qeq ?_ | refine qst ?_ | refine qv ?_ | refine qc ?_ | refine qe ?_ | refine qcs ?_ | skip); (repeat' first | exact rfl | (refine qS ?_; constructor)))
      · have : k = t.length := by omega
        subst this
        obtain ⟨c, hc⟩ : ∃ c, c = covB x t i := ⟨_, rfl⟩
        have hc' : (List.range t.length).any (fun k => seesB x (t.getD k 0).toNat (x.2.2.2.getD i 0)) = c := hc.symm
        rw [hc']
        (repeat' first | (refine Owe.same ?_; first | refine Owe.o ?_ | refine Owe.mk ?_ ?_) | (refine Fork.same ?_; (first | refine fkD ?_ ?_ | refine fkN ?_ ?_ | refine fkM ?_ ?_) <;> intro h) | refine MvQ.stay ?_)
        · have : q = false := by
            rw [hq, cvrB, Bool.eq_false_iff]
            intro hh
            have h9 := List.all_eq_true.1 hh i (List.mem_range.2 hlt)
            rw [← hc] at h9
            rw [h9] at h; exact absurd h (by decide)
          rw [this]
          (refine rqK rfl ?_; (repeat' first | exact rfl | (refine qS ?_; constructor)))
        · refine again0 (i + 1) ⟨hlt, fun j hj => ?_⟩ (by omega) (by ((first | refine qen ?_ | refine qvs ?_ | refine qeq ?_ | refine qst ?_ | refine qv ?_ | refine qc ?_ | refine qe ?_ | refine qcs ?_ | skip); (repeat' first | exact rfl | (refine qS ?_; constructor))))
          rcases Nat.lt_succ_iff_lt_or_eq.1 hj with h9 | rfl
          · exact hi.2 j h9
          · rw [← hc]; simpa using h
  · have : q = true := by
      rw [hq, cvrB, List.all_eq_true]
      intro j hj
      exact hi.2 j (by have := List.mem_range.1 hj; omega)
    rw [this]
    (repeat' first | (refine Owe.same ?_; first | refine Owe.o ?_ | refine Owe.mk ?_ ?_) | (refine Fork.same ?_; (first | refine fkD ?_ ?_ | refine fkN ?_ ?_ | refine fkM ?_ ?_) <;> intro h) | refine MvQ.stay ?_)
    (refine rqK rfl ?_; (repeat' first | exact rfl | (refine qS ?_; constructor)))
end Go.Pw

set_option linter.unusedSimpArgs false
set_option maxHeartbeats 1000000
namespace Go.Pw
set_option maxRecDepth 2000
open Go Go.Proofs A1 A2 A3 A4
abbrev cvD (x : Se) (t : List Int) : Int × Bool := (cvC x.2.2.1 t t.length, cvrB x t)
abbrev cvE (x : Se) : BSt := bestK (cvD x) x.2.2.1.length (2 ^ x.2.2.1.length)
end Go.Pw

set_option linter.unusedSimpArgs false
namespace Go.Pw
set_option maxRecDepth 2000
open Go Go.Proofs A1 A2 A3 A4
theorem mput_key {k z a : Int} : ∀ {es : List (Int × Int)}, a ∈ (mput es k z).map Prod.fst ↔ a = k ∨ a ∈ es.map Prod.fst
  | [] => by simp [mput]
  | (b, y) :: es => by
    have ih := mput_key (k := k) (z := z) (a := a) (es := es)
    rw [mput]
    split
    · rename_i h; subst h
      simp
    · simp only [List.map_cons, List.mem_cons, ih]
      constructor
      · rintro (h | h | h)
        · exact .inr (.inl h)
        · exact .inl h
        · exact .inr (.inr h)
      · rintro (h | h | h)
        · exact .inr (.inl h)
        · exact .inl h
        · exact .inr (.inr h)
theorem mput_nd {k z : Int} : ∀ {es : List (Int × Int)}, (es.map Prod.fst).Nodup → ((mput es k z).map Prod.fst).Nodup
  | [], _ => by simp [mput]
  | (b, y) :: es, h => by
    rw [List.map_cons, List.nodup_cons] at h
    rw [mput]
    split
    · rw [List.map_cons, List.nodup_cons]; exact h
    · rename_i hb
      rw [List.map_cons, List.nodup_cons, mput_key]
      exact ⟨fun hh => hh.elim hb h.1, mput_nd h.2⟩
theorem putL_key {a : Int} : ∀ {l : List Int} {es : List (Int × Int)}, a ∈ (putL es l).map Prod.fst ↔ a ∈ l ∨ a ∈ es.map Prod.fst
  | [], es => by simp [putL]
  | y :: l, es => by
    rw [putL, putL_key (l := l), mput_key, List.mem_cons]
    constructor
    · rintro (h | h | h)
      · exact .inl (.inr h)
      · exact .inl (.inl h)
      · exact .inr h
    · rintro ((h | h) | h)
      · exact .inr (.inl h)
      · exact .inl h
      · exact .inr (.inr h)
theorem putL_nd : ∀ {l : List Int} {es : List (Int × Int)}, (es.map Prod.fst).Nodup → ((putL es l).map Prod.fst).Nodup
  | [], _, h => h
  | y :: l, es, h => by rw [putL]; exact putL_nd (mput_nd (k := y) (z := 0) h)
theorem cvM_key {L : List (List Int)} {t : List Int} {a : Int} : ∀ {k : Nat}, a ∈ (cvM L t k).map Prod.fst ↔ ∃ j, j < k ∧ a ∈ L.getD (t.getD j 0).toNat []
  | 0 => by simp [cvM]
  | k + 1 => by
    rw [cvM, putL_key, cvM_key (k := k)]
    constructor
    · rintro (h | ⟨j, hj, h⟩)
      · exact ⟨k, by omega, h⟩
      · exact ⟨j, by omega, h⟩
    · rintro ⟨j, hj, h⟩
      rcases Nat.lt_succ_iff_lt_or_eq.1 hj with h1 | rfl
      · exact .inr ⟨j, h1, h⟩
      · exact .inl h
theorem cvM_nd {L : List (List Int)} {t : List Int} : ∀ {k : Nat}, ((cvM L t k).map Prod.fst).Nodup
  | 0 => by simp [cvM]
  | _ + 1 => putL_nd cvM_nd
theorem nd_len : ∀ {N : Nat} {K : List Int}, K.Nodup → (∀ a ∈ K, 0 ≤ a ∧ a < N) → K.length ≤ N ∧ (K.length = N ↔ ∀ i : Nat, i < N → (i : Int) ∈ K)
  | 0, K, _, hb => by
    have : K = [] := List.eq_nil_iff_forall_not_mem.2 fun a ha => by have := hb a ha; omega
    subst this
    exact ⟨Nat.le_refl _, fun _ i hi => absurd hi (Nat.not_lt_zero _), fun _ => rfl⟩
  | N + 1, K, hn, hb => by
    by_cases hm : (N : Int) ∈ K
    · have hl := List.length_erase_of_mem hm
      have hpos : 0 < K.length := List.length_pos_of_mem hm
      have ih := nd_len (N := N) (K := K.erase (N : Int)) (hn.erase _) (fun a ha => by
        have h1 := (hn.mem_erase_iff).1 ha
        have := hb a h1.2
        have := h1.1
        omega)
      rw [hl] at ih
      refine ⟨by omega, ?_⟩
      have e : K.length = N + 1 ↔ K.length - 1 = N := by omega
      rw [e, ih.2]
      constructor
      · intro h i hi
        rcases Nat.lt_succ_iff_lt_or_eq.1 hi with h1 | rfl
        · exact ((hn.mem_erase_iff).1 (h i h1)).2
        · exact hm
      · intro h i hi
        exact (hn.mem_erase_iff).2 ⟨by omega, h i (by omega)⟩
    · have ih := nd_len (N := N) (K := K) hn (fun a ha => by
        have := hb a ha
        have : a ≠ N := fun h => hm (h ▸ ha)
        omega)
      refine ⟨by omega, ?_⟩
      constructor
      · intro h; omega
      · intro h; exact absurd (h N (by omega)) hm
theorem snJ_mem {w : Int} {m : List Int} {r : Ry} {a : Int} : ∀ {j : Nat}, a ∈ snJ w m r j ↔ ∃ i, i < j ∧ isW m (celN w ((crS r).getD i (0, 0))) ∧ a = (bsN (celN w ((crS r).getD i (0, 0))) m : Int)
  | 0 => by simp [snJ]
  | j + 1 => by
    have ih := snJ_mem (w := w) (m := m) (r := r) (a := a) (j := j)
    rw [snJ]
    split
    · rename_i h
      rw [List.mem_append, ih, List.mem_singleton]
      constructor
      · rintro (⟨i, hi, h1⟩ | h1)
        · exact ⟨i, by omega, h1⟩
        · exact ⟨j, by omega, h, h1⟩
      · rintro ⟨i, hi, h1⟩
        rcases Nat.lt_succ_iff_lt_or_eq.1 hi with h2 | rfl
        · exact .inl ⟨i, h2, h1⟩
        · exact .inr h1.2
    · rename_i h
      rw [ih]
      constructor
      · rintro ⟨i, hi, h1⟩; exact ⟨i, by omega, h1⟩
      · rintro ⟨i, hi, h1⟩
        rcases Nat.lt_succ_iff_lt_or_eq.1 hi with h2 | rfl
        · exact ⟨i, h2, h1⟩
        · exact absurd h1.1 h
theorem snR_bd {w : Int} {m : List Int} {r : Ry} {a : Int} (h : a ∈ snR w m r) : 0 ≤ a ∧ a < m.length := by
  obtain ⟨i, _, h1, rfl⟩ := snJ_mem.1 h
  have := h1.1
  omega
theorem celI_of {w g : Int} (hw : 1 ≤ w) {c : Cel} (hc : inG c w g) {n : Int} (hn : 0 ≤ n) : celN w c = n ↔ c = celI w n := by
  have hb := cell_bd hc hw
  have h := cellN_iff hw (n := n.toNat) hc
  rw [celT, cellN] at h
  rw [show ((n.toNat : Nat) : Int) = n by omega] at h
  rw [← h, celN]
  omega
theorem snR_iff {x : Se} (hO : SeOk x) {v i : Nat} (hv : v < x.2.2.1.length) (hi : i < x.2.2.2.length) : (i : Int) ∈ snR x.1 x.2.2.2 (x.2.2.1.getD v vwd).1 ↔ seesB x v (x.2.2.2.getD i 0) = true := by
  have hm := hO.m _ (getD_mem 0 hi)
  have hw := hO.w
  have hry := (hO.v v hv).1
  rw [seesB, decide_eq_true_eq, snR, snJ_mem]
  constructor
  · rintro ⟨j, hj, h1, h2⟩
    have hc := getD_mem (0, 0) hj
    have e : x.2.2.2.getD i 0 = celN x.1 ((crS (x.2.2.1.getD v vwd).1).getD j (0, 0)) := by
      rw [show i = bsN (celN x.1 ((crS (x.2.2.1.getD v vwd).1).getD j (0, 0))) x.2.2.2 by omega]; exact h1.2
    have := (celI_of hw.1 (crS_in hry hc) (n := x.2.2.2.getD i 0) hm.1).1 e.symm
    rw [← this]; exact hc
  · intro hc
    obtain ⟨j, hj, he⟩ := List.getElem_of_mem hc
    have e : (crS (x.2.2.1.getD v vwd).1).getD j (0, 0) = celI x.1 (x.2.2.2.getD i 0) := by
      rw [List.getD_eq_getElem?_getD, List.getElem?_eq_getElem hj]; exact he
    have e2 := (celI_of hw.1 (crS_in hry hc) (n := x.2.2.2.getD i 0) hm.1).2 rfl
    have e3 : bsN (x.2.2.2.getD i 0) x.2.2.2 = i := bsN_eq (by omega) (fun t ht => hO.s t i ht hi) (fun _ => Int.le_refl _)
    refine ⟨j, hj, ?_⟩
    rw [e, e2]
    exact ⟨⟨by rw [e3]; exact hi, by rw [e3]⟩, by rw [e3]⟩
theorem cvF_eq {x : Se} (hO : SeOk x) {t : List Int} (ht : ∀ y ∈ t, 0 ≤ y ∧ y < x.2.2.1.length) : cvF x (snS x) t = cvD x t := by
  refine Prod.ext rfl ?_
  show decide ((cvM (snS x) t t.length).length = x.2.2.2.length) = cvrB x t
  have hg : ∀ j, j < t.length → (snS x).getD (t.getD j 0).toNat [] = snR x.1 x.2.2.2 (x.2.2.1.getD (t.getD j 0).toNat vwd).1 := fun j hj => by
    have := ht _ (getD_mem 0 hj)
    exact accL_get _ (by omega)
  have h := nd_len (N := x.2.2.2.length) (cvM_nd (L := snS x) (t := t) (k := t.length)) (fun a ha => by
    obtain ⟨j, hj, h1⟩ := cvM_key.1 ha
    rw [hg j hj] at h1
    exact snR_bd h1)
  rw [List.length_map] at h
  rw [Bool.eq_iff_iff, decide_eq_true_eq, h.2, cvrB, List.all_eq_true]
  have key : ∀ i, i < x.2.2.2.length → ((i : Int) ∈ (cvM (snS x) t t.length).map Prod.fst ↔ covB x t i = true) := fun i hi => by
    rw [cvM_key, covB, List.any_eq_true]
    constructor
    · rintro ⟨j, hj, h1⟩
      have := ht _ (getD_mem 0 hj)
      rw [hg j hj] at h1
      exact ⟨j, List.mem_range.2 hj, (snR_iff hO (by omega) hi).1 h1⟩
    · rintro ⟨j, hj, h1⟩
      have hj := List.mem_range.1 hj
      have := ht _ (getD_mem 0 hj)
      exact ⟨j, hj, by rw [hg j hj]; exact (snR_iff hO (by omega) hi).2 h1⟩
  constructor
  · intro h i hi
    have hi := List.mem_range.1 hi
    exact (key i hi).1 (h i hi)
  · intro h i hi
    exact (key i hi).2 (h i (List.mem_range.2 hi))
theorem bestK_congr {c c' : List Int → Int × Bool} {n : Nat} (h : ∀ b, c (subL n b) = c' (subL n b)) : ∀ b, bestK c n b = bestK c' n b
  | 0 => rfl
  | b + 1 => by simp only [bestK, bestK_congr h b, h b]
theorem cvB_eq {x : Se} (hO : SeOk x) : cvB x = cvE x := bestK_congr (fun _ => cvF_eq hO fun _ hy => subL_mem hy) _
end Go.Pw

set_option linter.unusedSimpArgs false
namespace Go.Pw
set_option maxRecDepth 2000
open Go Go.Proofs A1 A2 A3 A4
theorem C47 {l : List Int} : l.length ≤ 1000000 → PFD Tryz.prog 47 [.c (ints l)] (.c (ints l)) := fun h => by
  refine pi1 fn47 ?_
  (repeat' first | (refine Owe.same ?_; first | refine Owe.o ?_ | refine Owe.mk ?_ ?_) | (refine Fork.same ?_; (first | refine fkD ?_ ?_ | refine fkN ?_ ?_ | refine fkM ?_ ?_) <;> intro h) | refine MvQ.stay ?_)
  (refine rqK rfl ?_; (repeat' first | exact rfl | (refine qS ?_; constructor)))
end Go.Pw

set_option linter.unusedSimpArgs false
set_option maxHeartbeats 1000000
namespace Go.Pw
set_option maxRecDepth 2000
open Go Go.Proofs A1 A2 A3 A4
/-- The wanted number ahead of an index. -/
def lastF (m : List Int) : Nat → Int
  | 0 => -1
  | k + 1 => m.getD k 0
theorem wnE_6 {M last x : Int} (h : ¬ (0 ≤ x ∧ x ≤ M - 1)) : wnE M last x = 6 := by
  rw [wnE, fst_c (by rw [unl, decide_eq_false h]; decide), unl, decide_eq_false h]; rfl
theorem wnE_9 {M last x : Int} (h : 0 ≤ x ∧ x ≤ M - 1) (h2 : ¬ last < x) : wnE M last x = 9 := by
  rw [wnE, show unl (0 ≤ x ∧ x ≤ M - 1) 6 = 0 from (unl0 (by decide)).2 h, fst_z, fst_c (by rw [unl, decide_eq_false h2]; decide), unl, decide_eq_false h2]; rfl
theorem vwE_6 {w g : Int} {v : Vw} (h : ¬ ryOk v.1 w g) : vwE w g v = 6 := by
  rw [vwE, fst_c (by rw [unl, decide_eq_false h]; decide), unl, decide_eq_false h]; rfl
theorem vwE_2 {w g : Int} {v : Vw} (h : ryOk v.1 w g) (h2 : ¬ (0 ≤ v.2 ∧ v.2 ≤ 1000)) : vwE w g v = 2 := by
  rw [vwE, show unl (ryOk v.1 w g) 6 = 0 from (unl0 (by decide)).2 h, fst_z, fst_c (by rw [unl, decide_eq_false h2]; decide), unl, decide_eq_false h2]; rfl
theorem C48 {x : Se} : x.2.2.2.length ≤ 1000000 → PFD Tryz.prog 48 [sev x] (.tup [vi .i64 (seE x).1, vi .i64 (seE x).2]) := fun hml => by
  have c87 := C113 (w := x.1) (g := x.2.1)
  by_cases h0 : (1 ≤ x.1 ∧ x.1 ≤ 12) ∧ 1 ≤ x.2.1 ∧ x.2.1 ≤ 12
  · rw [show grdE x.1 x.2.1 = 0 from (unl0 (by decide)).2 h0] at c87
    have mwg : 1 ≤ x.1 * x.2.1 ∧ x.1 * x.2.1 ≤ 144 := by
      have h1 : (1 : Int) * 1 ≤ x.1 * x.2.1 := Int.mul_le_mul h0.1.1 h0.2.1 (by decide) (by omega)
      have h2 : x.1 * x.2.1 ≤ 12 * 12 := Int.mul_le_mul h0.1.2 h0.2.2 (by omega) (by decide)
      omega
    by_cases h1 : x.2.2.1.length ≤ 10
    · have hg : gridE x.1 x.2.1 x.2.2.1.length = 0 := gridE_ok.2 ⟨h0, by omega⟩
      have he : seE x = if (eachE (vwE x.1 x.2.1) 0 x.2.2.1).2 = 0 then eachW (x.1 * x.2.1) (-1) 0 x.2.2.2 else eachE (vwE x.1 x.2.1) 0 x.2.2.1 := by rw [seE, if_pos hg]
      obtain ⟨q, hq⟩ : ∃ q, q = seE x := ⟨_, rfl⟩
      rw [← hq]
      rw [← hq] at he
      refine pi2 fn48 ?_
      (repeat' first | (refine Owe.same ?_; first | refine Owe.o ?_ | refine Owe.mk ?_ ?_) | (refine Fork.same ?_; (first | refine fkY ?_ | refine fkF ?_ | ((first | refine fkD ?_ ?_ | refine fkN ?_ ?_ | refine fkM ?_ ?_) <;> intro h))) | ((first | refine OpsL.same ?_ | refine OpsDL.same ?_); first | refine oK c87 rfl rfl rfl ?_) | refine MvQ.stay ?_)
      refine Sat.lp0 (fun k : Nat => [(5, vi .i64 k), (1, .c (.rp (seD x)))]) (fun k => k ≤ x.2.2.1.length ∧ ∀ i, i < k → vwE x.1 x.2.1 (x.2.2.1.getD i vwd) = 0) (fun k => x.2.2.1.length - k) 0 ⟨Nat.zero_le _, fun i hi => by omega⟩ (by ((first | refine qen ?_ | refine qvs ?_ | refine qeq ?_ | refine qst ?_ | refine qv ?_ | refine qc ?_ | refine qe ?_ | refine qcs ?_ | skip); (repeat' first | exact rfl | (refine qS ?_; constructor)))) ?_
      intro k hk
      refine Fork.dec (fun hlt => ?_) (fun hlt => ?_)
      · have hlt : k < x.2.2.1.length := Int.ofNat_lt.1 hlt
        have c45 := C114 (r := (x.2.2.1.getD k vwd).1) (w := x.1) (g := x.2.1) ⟨by omega, by omega⟩
        have e := eachE_e (f := vwE x.1 x.2.1) (d := vwd) hk.2 hlt
        have e9 : ¬ vwE x.1 x.2.1 (x.2.2.1.getD k vwd) = 0 → q = ((k : Int), vwE x.1 x.2.1 (x.2.2.1.getD k vwd)) := fun h => by
          have e := e h
          rw [he, if_neg (by rw [e]; exact h), e]
        by_cases hr : ryOk (x.2.2.1.getD k vwd).1 x.1 x.2.1
        · rw [show unl (ryOk (x.2.2.1.getD k vwd).1 x.1 x.2.1) 6 = 0 from (unl0 (by decide)).2 hr] at c45
          by_cases hc : 0 ≤ (x.2.2.1.getD k vwd).2 ∧ (x.2.2.1.getD k vwd).2 ≤ 1000
          · have hc' : 0 ≤ (x.2.2.1.getD (k : Int).toNat vwd).2 ∧ (x.2.2.1.getD (k : Int).toNat vwd).2 ≤ 1000 := hc
            (repeat' first | (refine Owe.same ?_; first | refine Owe.o ?_ | refine Owe.mk ?_ ?_) | (refine Fork.same ?_; (first | refine fkY ?_ | refine fkF ?_ | ((first | refine fkD ?_ ?_ | refine fkN ?_ ?_ | refine fkM ?_ ?_) <;> intro h))) | ((first | refine OpsL.same ?_ | refine OpsDL.same ?_); first | refine oK c45 rfl rfl rfl ?_ | refine oK C14 rfl rfl rfl ?_) | refine MvQ.stay ?_)
            refine again0 (k + 1) ⟨hlt, fun i hi => ?_⟩ (by omega) (by ((first | refine qen ?_ | refine qvs ?_ | refine qeq ?_ | refine qst ?_ | refine qv ?_ | refine qc ?_ | refine qe ?_ | refine qcs ?_ | skip); (repeat' first | exact rfl | (refine qS ?_; constructor))))
            rcases Nat.lt_succ_iff_lt_or_eq.1 hi with h9 | rfl
            · exact hk.2 i h9
            · exact vwE_ok.2 ⟨hr, hc⟩
          · have hc' : ¬ (0 ≤ (x.2.2.1.getD (k : Int).toNat vwd).2 ∧ (x.2.2.1.getD (k : Int).toNat vwd).2 ≤ 1000) := hc
            have e2 := vwE_2 hr hc
            rw [e9 (by rw [e2]; decide), e2]
            (repeat' first | (refine Owe.same ?_; first | refine Owe.o ?_ | refine Owe.mk ?_ ?_) | (refine Fork.same ?_; (first | refine fkY ?_ | refine fkF ?_ | ((first | refine fkD ?_ ?_ | refine fkN ?_ ?_ | refine fkM ?_ ?_) <;> intro h))) | ((first | refine OpsL.same ?_ | refine OpsDL.same ?_); first | refine oK c45 rfl rfl rfl ?_ | refine oK C14 rfl rfl rfl ?_) | refine MvQ.stay ?_)
            (refine rqK rfl ?_; (repeat' first | exact rfl | (refine qS ?_; constructor)))
        · have e2 := vwE_6 hr
          rw [show unl (ryOk (x.2.2.1.getD k vwd).1 x.1 x.2.1) 6 = 6 by rw [unl, decide_eq_false hr]; rfl] at c45
          rw [e9 (by rw [e2]; decide), e2]
          (repeat' first | (refine Owe.same ?_; first | refine Owe.o ?_ | refine Owe.mk ?_ ?_) | (refine Fork.same ?_; (first | refine fkY ?_ | refine fkF ?_ | ((first | refine fkD ?_ ?_ | refine fkN ?_ ?_ | refine fkM ?_ ?_) <;> intro h))) | ((first | refine OpsL.same ?_ | refine OpsDL.same ?_); first | refine oK c45 rfl rfl rfl ?_) | refine MvQ.stay ?_)
          (refine rqK rfl ?_; (repeat' first | exact rfl | (refine qS ?_; constructor)))
      · have he : q = eachW (x.1 * x.2.1) (-1) 0 x.2.2.2 := by
          rw [he, if_pos]
          rw [eachE_z (d := vwd) fun i hi => hk.2 i (by omega)]
        (repeat' first | (refine Owe.same ?_; first | refine Owe.o ?_ | refine Owe.mk ?_ ?_) | (refine Fork.same ?_; (first | refine fkD ?_ ?_ | refine fkN ?_ ?_ | refine fkM ?_ ?_) <;> intro h) | refine MvQ.stay ?_)
        refine Sat.lp0 (fun k : Nat => [(7, vi .i64 k), (1, .c (.rp (seD x)))]) (fun k => k ≤ x.2.2.2.length ∧ q = eachW (x.1 * x.2.1) (lastF x.2.2.2 k) k (x.2.2.2.drop k)) (fun k => x.2.2.2.length - k) 0 ⟨Nat.zero_le _, he⟩ (by ((first | refine qen ?_ | refine qvs ?_ | refine qeq ?_ | refine qst ?_ | refine qv ?_ | refine qc ?_ | refine qe ?_ | refine qcs ?_ | skip); (repeat' first | exact rfl | (refine qS ?_; constructor)))) ?_
        intro k hk
        refine Fork.dec (fun hlt => ?_) (fun hlt => ?_)
        · have hlt : k < x.2.2.2.length := Int.ofNat_lt.1 hlt
          have e := hk.2
          rw [eachW_drop _ _ _ _ hlt] at e
          by_cases hr : 0 ≤ x.2.2.2.getD k 0 ∧ x.2.2.2.getD k 0 ≤ x.1 * x.2.1 - 1
          · have hr' : 0 ≤ x.2.2.2.getD (k : Int).toNat 0 ∧ x.2.2.2.getD (k : Int).toNat 0 ≤ x.1 * x.2.1 - 1 := hr
            by_cases hl : lastF x.2.2.2 k < x.2.2.2.getD k 0
            · rw [if_pos (wnE_ok.2 ⟨hr, hl⟩)] at e
              rcases k with _ | k
              · (repeat' first | (refine Owe.same ?_; first | refine Owe.o ?_ | refine Owe.mk ?_ ?_) | (refine Fork.same ?_; (first | refine fkY ?_ | refine fkF ?_ | ((first | refine fkD ?_ ?_ | refine fkN ?_ ?_ | refine fkM ?_ ?_) <;> intro h))) | ((first | refine OpsL.same ?_ | refine OpsDL.same ?_); first | refine oK C14 rfl rfl rfl ?_) | refine MvQ.stay ?_)
                exact again0 1 ⟨hlt, e⟩ (by omega) (by ((first | refine qen ?_ | refine qvs ?_ | refine qeq ?_ | refine qst ?_ | refine qv ?_ | refine qc ?_ | refine qe ?_ | refine qcs ?_ | skip); (repeat' first | exact rfl | (refine qS ?_; constructor))))
              · have e0 : (((k + 1 : Nat) : Int) - 1).toNat = k := by omega
                have hl : ¬ x.2.2.2.getD (((k + 1 : Nat) : Int)).toNat 0 ≤ x.2.2.2.getD (((k + 1 : Nat) : Int) - 1).toNat 0 := by rw [e0]; exact Int.not_le.2 hl
                (repeat' first | (refine Owe.same ?_; first | refine Owe.o ?_ | refine Owe.mk ?_ ?_) | (refine Fork.same ?_; (first | refine fkY ?_ | refine fkF ?_ | ((first | refine fkD ?_ ?_ | refine fkN ?_ ?_ | refine fkM ?_ ?_) <;> intro h))) | ((first | refine OpsL.same ?_ | refine OpsDL.same ?_); first | refine oK C14 rfl rfl rfl ?_) | refine MvQ.stay ?_)
                exact again0 (k + 2) ⟨hlt, e⟩ (by omega) (by ((first | refine qen ?_ | refine qvs ?_ | refine qeq ?_ | refine qst ?_ | refine qv ?_ | refine qc ?_ | refine qe ?_ | refine qcs ?_ | skip); (repeat' first | exact rfl | (refine qS ?_; constructor))))
            · rw [wnE_9 hr hl, if_neg (by decide)] at e
              rcases k with _ | k
              · exact absurd hl (by simp only [lastF]; omega)
              · have e0 : (((k + 1 : Nat) : Int) - 1).toNat = k := by omega
                have hl : x.2.2.2.getD (((k + 1 : Nat) : Int)).toNat 0 ≤ x.2.2.2.getD (((k + 1 : Nat) : Int) - 1).toNat 0 := by rw [e0]; exact Int.not_lt.1 hl
                rw [e]
                (repeat' first | (refine Owe.same ?_; first | refine Owe.o ?_ | refine Owe.mk ?_ ?_) | (refine Fork.same ?_; (first | refine fkY ?_ | refine fkF ?_ | ((first | refine fkD ?_ ?_ | refine fkN ?_ ?_ | refine fkM ?_ ?_) <;> intro h))) | ((first | refine OpsL.same ?_ | refine OpsDL.same ?_); first | refine oK C14 rfl rfl rfl ?_) | refine MvQ.stay ?_)
                (refine rqK rfl ?_; (repeat' first | exact rfl | (refine qS ?_; constructor)))
          · have hr' : ¬ (0 ≤ x.2.2.2.getD (k : Int).toNat 0 ∧ x.2.2.2.getD (k : Int).toNat 0 ≤ x.1 * x.2.1 - 1) := hr
            rw [wnE_6 hr, if_neg (by decide)] at e
            rw [e]
            (repeat' first | (refine Owe.same ?_; first | refine Owe.o ?_ | refine Owe.mk ?_ ?_) | (refine Fork.same ?_; (first | refine fkY ?_ | refine fkF ?_ | ((first | refine fkD ?_ ?_ | refine fkN ?_ ?_ | refine fkM ?_ ?_) <;> intro h))) | ((first | refine OpsL.same ?_ | refine OpsDL.same ?_); first | refine oK C14 rfl rfl rfl ?_) | refine MvQ.stay ?_)
            (refine rqK rfl ?_; (repeat' first | exact rfl | (refine qS ?_; constructor)))
        · have : q = (0, 0) := by rw [hk.2, List.drop_of_length_le (by omega)]; rfl
          rw [this]
          (repeat' first | (refine Owe.same ?_; first | refine Owe.o ?_ | refine Owe.mk ?_ ?_) | (refine Fork.same ?_; (first | refine fkD ?_ ?_ | refine fkN ?_ ?_ | refine fkM ?_ ?_) <;> intro h) | refine MvQ.stay ?_)
          (refine rqK rfl ?_; (repeat' first | exact rfl | (refine qS ?_; constructor)))
    · have e : seE x = (0, 8) := by
        have : gridE x.1 x.2.1 x.2.2.1.length = 8 := by
          rw [gridE, fstE, if_pos ((unl0 (by decide)).2 h0), fstE, unl, decide_eq_false (by omega)]; rfl
        rw [seE]; simp only [this]; rfl
      rw [e]
      refine pi2 fn48 ?_
      (repeat' first | (refine Owe.same ?_; first | refine Owe.o ?_ | refine Owe.mk ?_ ?_) | (refine Fork.same ?_; (first | refine fkY ?_ | refine fkF ?_ | ((first | refine fkD ?_ ?_ | refine fkN ?_ ?_ | refine fkM ?_ ?_) <;> intro h))) | ((first | refine OpsL.same ?_ | refine OpsDL.same ?_); first | refine oK c87 rfl rfl rfl ?_) | refine MvQ.stay ?_)
      (refine rqK rfl ?_; (repeat' first | exact rfl | (refine qS ?_; constructor)))
  · have e2 : grdE x.1 x.2.1 = 2 := by rw [grdE, unl, decide_eq_false h0]; rfl
    have e : seE x = (0, 2) := by
      have : gridE x.1 x.2.1 x.2.2.1.length = 2 := by
        rw [gridE, show unl ((1 ≤ x.1 ∧ x.1 ≤ 12) ∧ 1 ≤ x.2.1 ∧ x.2.1 ≤ 12) 2 = 2 from e2]; rfl
      rw [seE]; simp only [this]; rfl
    rw [e2] at c87
    rw [e]
    refine pi2 fn48 ?_
    (repeat' first | (refine Owe.same ?_; first | refine Owe.o ?_ | refine Owe.mk ?_ ?_) | (refine Fork.same ?_; (first | refine fkY ?_ | refine fkF ?_ | ((first | refine fkD ?_ ?_ | refine fkN ?_ ?_ | refine fkM ?_ ?_) <;> intro h))) | ((first | refine OpsL.same ?_ | refine OpsDL.same ?_); first | refine oK c87 rfl rfl rfl ?_) | refine MvQ.stay ?_)
    (refine rqK rfl ?_; (repeat' first | exact rfl | (refine qS ?_; constructor)))
theorem C51 {x : Se} : x.2.2.2.length ≤ 1000000 → PFD Tryz.prog 51 [sev x] (vi .i64 (seE x).2) := fun hml => by
  have c := C48 hml
  refine pi1 fn51 ?_
  (repeat' first | (refine Owe.same ?_; first | refine Owe.o ?_ | refine Owe.mk ?_ ?_) | (refine Fork.same ?_; (first | refine fkY ?_ | refine fkF ?_ | ((first | refine fkD ?_ ?_ | refine fkN ?_ ?_ | refine fkM ?_ ?_) <;> intro h))) | ((first | refine OpsL.same ?_ | refine OpsDL.same ?_); first | refine oK c rfl rfl rfl ?_) | refine MvQ.stay ?_)
  (refine rqK rfl ?_; (repeat' first | exact rfl | (refine qS ?_; constructor)))
def vwsB (x : Se) : Bool := decide ((x.2.2.1.length : Int) ≤ 12 ∧ (x.2.2.2.length : Int) ≤ 150 ∧ ((x.2.2.1.length : Int) ≤ 6 ∨ ¬ (seE x).2 = 0))
theorem C42 {x : Se} : PFD Tryz.prog 42 [sev x] (vbl (vwsB x)) := by
  have c := C51 (x := x)
  rw [vwsB]
  generalize (seE x).2 = e at *
  refine pi1 fn42 ?_
  (repeat' first | (refine Owe.same ?_; first | refine Owe.o ?_ | refine Owe.mk ?_ ?_) | (refine Fork.same ?_; (first | refine fkY ?_ | refine fkF ?_ | ((first | refine fkD ?_ ?_ | refine fkN ?_ ?_ | refine fkM ?_ ?_) <;> intro h))) | ((first | refine OpsL.same ?_ | refine OpsDL.same ?_); first | refine oK c rfl rfl rfl ?_) | refine MvQ.stay ?_)
  all_goals (refine rqK rfl ?_; (repeat' first | exact rfl | (refine qS ?_; constructor)))
  all_goals first | exact decide_eq_true (by omega) | exact decide_eq_false (by omega) | (rw [Bool.eq_iff_iff]; simp only [Bool.not_eq_true', decide_eq_true_eq, decide_eq_false_iff_not]; omega)
theorem C44 {x : Se} : (x.2.2.1.length ≤ 1000000 ∧ x.2.2.2.length ≤ 1000000) → PFD Tryz.prog 44 [sev x] (sev x) := fun ⟨h1, h2⟩ => by
  refine pi1 fn44 ?_
  (repeat' first | (refine Owe.same ?_; first | refine Owe.o ?_ | refine Owe.mk ?_ ?_) | (refine Fork.same ?_; (first | refine fkD ?_ ?_ | refine fkN ?_ ?_ | refine fkM ?_ ?_) <;> intro h) | ((first | refine OpsL.same ?_ | refine OpsDL.same ?_); first | refine pK C47 rfl rfl ?_) | refine MvQ.stay ?_)
  (refine rqK rfl ?_; (repeat' first | exact rfl | (refine qS ?_; constructor)))
end Go.Pw

set_option linter.unusedSimpArgs false
namespace Go.Pw
set_option maxRecDepth 2000
open Go Go.Proofs A1 A2 A3 A4
theorem catR_nd {α : Type} {f : Int → List α} {a : Int} : ∀ {k : Nat}, (∀ i : Nat, i < k → (f (a + i)).Nodup) → (∀ i j : Nat, i < j → j < k → ∀ x, x ∈ f (a + i) → x ∈ f (a + j) → False) → (catR f a k).Nodup
  | 0, _, _ => by simp [catR]
  | k + 1, h1, h2 => by
    rw [catR, List.nodup_append]
    refine ⟨catR_nd (fun i hi => h1 i (by omega)) (fun i j hij hj => h2 i j hij (by omega)), h1 k (by omega), fun x hx y hy he => ?_⟩
    subst he
    obtain ⟨i, hi, hm⟩ := catR_mem.1 hx
    exact h2 i k hi (by omega) x hm hy
theorem crC_fst {r : Ry} {y x : Int} {c : Cel} (h : c ∈ crC r y x) : c = (x, y) := by
  rw [crC] at h
  split at h
  · exact List.mem_singleton.1 h
  · exact absurd h List.not_mem_nil
theorem crS_nd (r : Ry) : (crS r).Nodup := by
  refine catR_nd (fun i _ => catR_nd (fun j _ => ?_) fun j k hj _ x hx hy => ?_) fun i j hi _ x hx hy => ?_
  · rw [crC]; split
    · exact List.nodup_cons.2 ⟨List.not_mem_nil, List.nodup_nil⟩
    · exact List.nodup_nil
  · have e1 := crC_fst hx
    have e2 := crC_fst hy
    rw [e1] at e2
    have := congrArg Prod.fst e2
    simp only at this; omega
  · obtain ⟨k, _, hk⟩ := catR_mem.1 hx
    obtain ⟨l, _, hl⟩ := catR_mem.1 hy
    have e1 := crC_fst hk
    have e2 := crC_fst hl
    rw [e1] at e2
    have := congrArg Prod.snd e2
    simp only at this; omega
theorem nd_getD {α : Type} {l : List α} {d : α} (h : l.Nodup) {i j : Nat} (hij : i < j) (hj : j < l.length) : l.getD i d ≠ l.getD j d := by
  have hi : i < l.length := by omega
  rw [List.getD_eq_getElem?_getD, List.getElem?_eq_getElem hi, List.getD_eq_getElem?_getD, List.getElem?_eq_getElem hj]
  exact List.pairwise_iff_getElem.1 h i j hi hj hij
theorem snR_nd {x : Se} (hO : SeOk x) {v : Nat} (hv : v < x.2.2.1.length) : (snR x.1 x.2.2.2 (x.2.2.1.getD v vwd).1).Nodup := by
  have hry := (hO.v v hv).1
  have hw := hO.w
  have hnd := crS_nd (x.2.2.1.getD v vwd).1
  rw [snR]
  have key : ∀ j, j ≤ (crS (x.2.2.1.getD v vwd).1).length → (snJ x.1 x.2.2.2 (x.2.2.1.getD v vwd).1 j).Nodup := fun j => by
    induction j with
    | zero => intro _; exact List.nodup_nil
    | succ j ih =>
      intro hj
      have ih := ih (by omega)
      rw [snJ]
      split
      · rename_i hW
        rw [List.nodup_append]
        refine ⟨ih, List.nodup_cons.2 ⟨List.not_mem_nil, List.nodup_nil⟩, fun a ha b hb he => ?_⟩
        rw [List.mem_singleton] at hb
        subst he
        obtain ⟨i, hi, hWi, h2⟩ := snJ_mem.1 ha
        have hij : i < (crS (x.2.2.1.getD v vwd).1).length := by omega
        have hjl : j < (crS (x.2.2.1.getD v vwd).1).length := by omega
        have e : bsN (celN x.1 ((crS (x.2.2.1.getD v vwd).1).getD i (0, 0))) x.2.2.2 = bsN (celN x.1 ((crS (x.2.2.1.getD v vwd).1).getD j (0, 0))) x.2.2.2 := by omega
        have e2 : celN x.1 ((crS (x.2.2.1.getD v vwd).1).getD i (0, 0)) = celN x.1 ((crS (x.2.2.1.getD v vwd).1).getD j (0, 0)) := by
          rw [← hWi.2, e, hW.2]
        have hci := crS_in hry (getD_mem (0, 0) hij)
        have hcj := crS_in hry (getD_mem (0, 0) hjl)
        have hb2 := cell_bd hcj hw.1
        have e3 := (celI_of hw.1 hci hb2.1).1 e2
        have e4 := (celI_of hw.1 hcj hb2.1).1 rfl
        have e5 := e3.trans e4.symm
        exact nd_getD hnd hi hjl e5
      · exact ih
  exact key _ (Nat.le_refl _)
/-- A sum of so many. -/
def smF (f : Nat → Int) : Nat → Int
  | 0 => 0
  | n + 1 => smF f n + f n
theorem smF_congr {f g : Nat → Int} : ∀ {n : Nat}, (∀ i, i < n → f i = g i) → smF f n = smF g n
  | 0, _ => rfl
  | n + 1, h => by rw [smF, smF, smF_congr fun i hi => h i (by omega), h n (by omega)]
theorem smF_upd {f g : Nat → Int} {a : Nat} {d : Int} (h : ∀ i, i ≠ a → f i = g i) (ha : f a = g a + d) : ∀ {n : Nat}, a < n → smF f n = smF g n + d
  | 0, hn => absurd hn (Nat.not_lt_zero _)
  | n + 1, hn => by
    rw [smF, smF]
    rcases Nat.lt_succ_iff_lt_or_eq.1 hn with h1 | rfl
    · rw [smF_upd h ha h1, h n (by omega)]; omega
    · rw [smF_congr fun i hi => h i (by omega), ha]; omega
/-- The prices at some indexes. -/
def sumT (p : List Int) : List Int → Int
  | [] => 0
  | a :: T => p.getD a.toNat 0 + sumT p T
theorem sumT_app (p : List Int) (a : Int) : ∀ (T : List Int), sumT p (T ++ [a]) = sumT p T + p.getD a.toNat 0
  | [] => by simp [sumT]
  | b :: T => by rw [List.cons_append, sumT, sumT_app p a T, sumT]; omega
theorem sumT_eq {p : List Int} {N : Nat} : ∀ {T : List Int}, T.Nodup → (∀ a ∈ T, 0 ≤ a ∧ a < N) → sumT p T = smF (fun i => if (i : Int) ∈ T then p.getD i 0 else 0) N
  | [], _, _ => by
    have : ∀ n, smF (fun i => if (i : Int) ∈ ([] : List Int) then p.getD i 0 else 0) n = 0 := fun n => by
      induction n with
      | zero => rfl
      | succ n ih => rw [smF, ih, if_neg List.not_mem_nil]; rfl
    rw [this]; rfl
  | a :: T, hn, hb => by
    rw [List.nodup_cons] at hn
    have hba := hb a (.head _)
    have e : ((a.toNat : Nat) : Int) = a := by omega
    rw [sumT, sumT_eq hn.2 fun y hy => hb y (.tail _ hy), Int.add_comm]
    refine (smF_upd (a := a.toNat) (fun i hi => ?_) ?_ (by omega)).symm
    · have : (i : Int) ≠ a := by omega
      simp only [List.mem_cons, this, false_or]
    · simp only [e, List.mem_cons, true_or, if_true, if_neg hn.1]; omega
/-- What the wanted cells that a view sees cost, among so many. -/
abbrev vsF (x : Se) (p : List Int) (k : Nat) : Nat → Int := smF fun i => if seesB x k (x.2.2.2.getD i 0) = true then p.getD i 0 else 0
theorem vs_eq {x : Se} (hO : SeOk x) {p : List Int} {v : Nat} (hv : v < x.2.2.1.length) : sumT p (snR x.1 x.2.2.2 (x.2.2.1.getD v vwd).1) = vsF x p v x.2.2.2.length := by
  rw [sumT_eq (snR_nd hO hv) (fun a ha => snR_bd ha)]
  refine smF_congr fun i hi => ?_
  have h := snR_iff hO hv hi
  by_cases hs : seesB x v (x.2.2.2.getD i 0) = true
  · rw [if_pos (h.2 hs), if_pos hs]
  · rw [if_neg fun hh => hs (h.1 hh), if_neg hs]
end Go.Pw

set_option linter.unusedSimpArgs false
set_option maxHeartbeats 1000000
namespace Go.Pw
set_option maxRecDepth 2000
open Go Go.Proofs A1 A2 A3 A4
abbrev prcOk (p : List Int) : Prop := ∀ i, i < p.length → 0 ≤ p.getD i 0 ∧ p.getD i 0 ≤ 1000
/-- A view that is paid too much for, from an index on. -/
abbrev vwsOk (x : Se) (p : List Int) : Prop := ∀ k, k < x.2.2.1.length → vsF x p k x.2.2.2.length ≤ (x.2.2.1.getD k vwd).2
/-- The error of prices. -/
def pcE (x : Se) (p : List Int) : Int := if p.length = x.2.2.2.length then (if prcOk p then (if vwsOk x p then 0 else 19) else 2) else 10
theorem pcE_10 {x : Se} {p : List Int} (h : ¬ p.length = x.2.2.2.length) : pcE x p = 10 := by rw [pcE, if_neg h]
theorem pcE_2 {x : Se} {p : List Int} (h : p.length = x.2.2.2.length) {k : Nat} (hk : k < p.length) (h2 : ¬ (0 ≤ p.getD k 0 ∧ p.getD k 0 ≤ 1000)) : pcE x p = 2 := by rw [pcE, if_pos h, if_neg fun hh => h2 (hh k hk)]
theorem pcE_19 {x : Se} {p : List Int} (h : p.length = x.2.2.2.length) (h2 : prcOk p) {k : Nat} (hk : k < x.2.2.1.length) (h3 : (x.2.2.1.getD k vwd).2 < vsF x p k x.2.2.2.length) : pcE x p = 19 := by rw [pcE, if_pos h, if_pos h2, if_neg fun hh => absurd (hh k hk) (Int.not_le.2 h3)]
theorem pcE_0 {x : Se} {p : List Int} (h : p.length = x.2.2.2.length) (h2 : prcOk p) (h3 : vwsOk x p) : pcE x p = 0 := by rw [pcE, if_pos h, if_pos h2, if_pos h3]
theorem vsF_bd {x : Se} {p : List Int} {k : Nat} (h : ∀ i, 0 ≤ p.getD i 0 ∧ p.getD i 0 ≤ 1000) : ∀ n : Nat, 0 ≤ vsF x p k n ∧ vsF x p k n ≤ 1000 * n
  | 0 => by simp [smF]
  | n + 1 => by
    have := vsF_bd (x := x) (k := k) h n
    have := h n
    have e : vsF x p k (n + 1) = vsF x p k n + if seesB x k (x.2.2.2.getD n 0) = true then p.getD n 0 else 0 := rfl
    rw [e]
    split <;> omega
theorem prcOk_all {p : List Int} (h : prcOk p) : ∀ i, 0 ≤ p.getD i 0 ∧ p.getD i 0 ≤ 1000 := fun i => by
  by_cases hi : i < p.length
  · exact h i hi
  · rw [List.getD_eq_getElem?_getD, List.getElem?_eq_none (by omega)]; decide
theorem C50 {x : Se} {p : List Int} : (SeOk x ∧ p.length ≤ 1000000) → PFD Tryz.prog 50 [sev x, .c (ints p)] (vi .i64 (pcE x p)) := fun ⟨hO, hp⟩ => by
  have hn := hO.n
  have hm := hO.len
  obtain ⟨q, hq⟩ : ∃ q, q = pcE x p := ⟨_, rfl⟩
  rw [← hq]
  by_cases hl : p.length = x.2.2.2.length
  · refine pi1 fn50 ?_
    (repeat' first | (refine Owe.same ?_; first | refine Owe.o ?_ | refine Owe.mk ?_ ?_) | (refine Fork.same ?_; (first | refine fkY ?_ | refine fkF ?_ | ((first | refine fkD ?_ ?_ | refine fkN ?_ ?_ | refine fkM ?_ ?_) <;> intro h))) | ((first | refine OpsL.same ?_ | refine OpsDL.same ?_); first | refine oK C14 rfl rfl rfl ?_) | refine MvQ.stay ?_)
    refine Sat.lp0 (fun k : Nat => [(5, vi .i64 k), (2, .c (.rp (seD x))), (1, .c (ints p))]) (fun k => k ≤ p.length ∧ ∀ i, i < k → 0 ≤ p.getD i 0 ∧ p.getD i 0 ≤ 1000) (fun k => p.length - k) 0 ⟨Nat.zero_le _, fun i hi => by omega⟩ (by ((first | refine qen ?_ | refine qvs ?_ | refine qeq ?_ | refine qst ?_ | refine qv ?_ | refine qc ?_ | refine qe ?_ | refine qcs ?_ | skip); (repeat' first | exact rfl | (refine qS ?_; constructor)))) ?_
    intro k hk
    refine Fork.dec (fun hlt => ?_) (fun hlt => ?_)
    · have hlt : k < p.length := Int.ofNat_lt.1 hlt
      (repeat' first | (refine Owe.same ?_; first | refine Owe.o ?_ | refine Owe.mk ?_ ?_) | (refine Fork.same ?_; (first | refine fkD ?_ ?_ | refine fkN ?_ ?_ | refine fkM ?_ ?_) <;> intro h) | ((first | refine OpsL.same ?_ | refine OpsDL.same ?_); first | refine pK C14 rfl rfl ?_) | refine MvQ.stay ?_)
      · rw [hq, pcE_2 hl hlt h]
        (refine rqK rfl ?_; (repeat' first | exact rfl | (refine qS ?_; constructor)))
      · refine again0 (k + 1) ⟨hlt, fun i hi => ?_⟩ (by omega) (by ((first | refine qen ?_ | refine qvs ?_ | refine qeq ?_ | refine qst ?_ | refine qv ?_ | refine qc ?_ | refine qe ?_ | refine qcs ?_ | skip); (repeat' first | exact rfl | (refine qS ?_; constructor))))
        rcases Nat.lt_succ_iff_lt_or_eq.1 hi with h9 | rfl
        · exact hk.2 i h9
        · exact h
    · have hlt : ¬ ((k : Int) < (p.length : Int)) := hlt
      have hP : prcOk p := fun i hi => hk.2 i (by omega)
      have hPa := prcOk_all hP
      (repeat' first | (refine Owe.same ?_; first | refine Owe.o ?_ | refine Owe.mk ?_ ?_) | (refine Fork.same ?_; (first | refine fkD ?_ ?_ | refine fkN ?_ ?_ | refine fkM ?_ ?_) <;> intro h) | refine MvQ.stay ?_)
      refine Sat.lp0 (fun k : Nat => [(6, vi .i64 k), (2, .c (.rp (seD x))), (1, .c (ints p))]) (fun k => k ≤ x.2.2.1.length ∧ ∀ i, i < k → vsF x p i x.2.2.2.length ≤ (x.2.2.1.getD i vwd).2) (fun k => x.2.2.1.length - k) 0 ⟨Nat.zero_le _, fun i hi => by omega⟩ (by ((first | refine qen ?_ | refine qvs ?_ | refine qeq ?_ | refine qst ?_ | refine qv ?_ | refine qc ?_ | refine qe ?_ | refine qcs ?_ | skip); (repeat' first | exact rfl | (refine qS ?_; constructor)))) ?_
      intro k hk
      refine Fork.dec (fun hlt => ?_) (fun hlt => ?_)
      · have hlt : k < x.2.2.1.length := Int.ofNat_lt.1 hlt
        (repeat' first | (refine Owe.same ?_; first | refine Owe.o ?_ | refine Owe.mk ?_ ?_) | (refine Fork.same ?_; (first | refine fkD ?_ ?_ | refine fkN ?_ ?_ | refine fkM ?_ ?_) <;> intro h) | refine MvQ.stay ?_)
        refine Sat.lp0 (fun i : Nat => [(8, vi .i64 i), (7, vi .i64 (vsF x p k i)), (6, vi .i64 k), (2, .c (.rp (seD x))), (1, .c (ints p))]) (fun i => i ≤ p.length) (fun i => p.length - i) 0 (Nat.zero_le _) (by ((first | refine qen ?_ | refine qvs ?_ | refine qeq ?_ | refine qst ?_ | refine qv ?_ | refine qc ?_ | refine qe ?_ | refine qcs ?_ | skip); (repeat' first | exact rfl | (refine qS ?_; constructor)))) ?_
        intro i hi
        have hb := vsF_bd (x := x) (k := k) hPa i
        refine Fork.dec (fun hli => ?_) (fun hli => ?_)
        · have hli : i < p.length := Int.ofNat_lt.1 hli
          have hmi := hO.m _ (getD_mem 0 (show i < x.2.2.2.length by omega))
          have c116 := C116 (x := x) (v := k) (n := x.2.2.2.getD i 0) ⟨hO, hlt, hmi.1, hmi.2⟩
          have hpi := hPa i
          have e : vsF x p k (i + 1) = vsF x p k i + if seesB x k (x.2.2.2.getD i 0) = true then p.getD i 0 else 0 := rfl
          generalize vsF x p k i = s at *
          generalize seesB x k (x.2.2.2.getD i 0) = b at *
          (repeat' first | (refine Owe.same ?_; first | refine Owe.o ?_ | refine Owe.mk ?_ ?_) | (refine Fork.same ?_; (first | refine fkD ?_ ?_ | refine fkN ?_ ?_ | refine fkM ?_ ?_) <;> intro h) | ((first | refine OpsL.same ?_ | refine OpsDL.same ?_); first | refine pK c116 rfl rfl ?_) | refine MvQ.stay ?_)
          · rw [if_pos h] at e
            refine again0 (i + 1) hli (by omega) ?_
            rw [e]; ((first | refine qen ?_ | refine qvs ?_ | refine qeq ?_ | refine qst ?_ | refine qv ?_ | refine qc ?_ | refine qe ?_ | refine qcs ?_ | skip); (repeat' first | exact rfl | (refine qS ?_; constructor)))
          · rw [if_neg (by rw [h]; decide), Int.add_zero] at e
            refine again0 (i + 1) hli (by omega) ?_
            rw [e]; ((first | refine qen ?_ | refine qvs ?_ | refine qeq ?_ | refine qst ?_ | refine qv ?_ | refine qc ?_ | refine qe ?_ | refine qcs ?_ | skip); (repeat' first | exact rfl | (refine qS ?_; constructor)))
        · have : i = x.2.2.2.length := by omega
          subst this
          generalize hs : vsF x p k x.2.2.2.length = s at *
          (repeat' first | (refine Owe.same ?_; first | refine Owe.o ?_ | refine Owe.mk ?_ ?_) | (refine Fork.same ?_; (first | refine fkD ?_ ?_ | refine fkN ?_ ?_ | refine fkM ?_ ?_) <;> intro h) | refine MvQ.stay ?_)
          · rw [hq, pcE_19 hl hP hlt (by rw [hs]; exact h)]
            (refine rqK rfl ?_; (repeat' first | exact rfl | (refine qS ?_; constructor)))
          · refine again0 (k + 1) ⟨hlt, fun i hi => ?_⟩ (by omega) (by ((first | refine qen ?_ | refine qvs ?_ | refine qeq ?_ | refine qst ?_ | refine qv ?_ | refine qc ?_ | refine qe ?_ | refine qcs ?_ | skip); (repeat' first | exact rfl | (refine qS ?_; constructor))))
            rcases Nat.lt_succ_iff_lt_or_eq.1 hi with h9 | rfl
            · exact hk.2 i h9
            · rw [hs]; exact Int.not_lt.1 h
      · have hlt : ¬ ((k : Int) < (x.2.2.1.length : Int)) := hlt
        have : q = 0 := hq.trans (pcE_0 hl hP fun i hi => hk.2 i (by omega))
        rw [this]
        (repeat' first | (refine Owe.same ?_; first | refine Owe.o ?_ | refine Owe.mk ?_ ?_) | (refine Fork.same ?_; (first | refine fkD ?_ ?_ | refine fkN ?_ ?_ | refine fkM ?_ ?_) <;> intro h) | refine MvQ.stay ?_)
        (refine rqK rfl ?_; (repeat' first | exact rfl | (refine qS ?_; constructor)))
  · rw [hq, pcE_10 hl]
    refine pi1 fn50 ?_
    (repeat' first | (refine Owe.same ?_; first | refine Owe.o ?_ | refine Owe.mk ?_ ?_) | (refine Fork.same ?_; (first | refine fkY ?_ | refine fkF ?_ | ((first | refine fkD ?_ ?_ | refine fkN ?_ ?_ | refine fkM ?_ ?_) <;> intro h))) | ((first | refine OpsL.same ?_ | refine OpsDL.same ?_); first | refine oK C14 rfl rfl rfl ?_) | refine MvQ.stay ?_)
    (refine rqK rfl ?_; (repeat' first | exact rfl | (refine qS ?_; constructor)))
abbrev totF (p : List Int) : Nat → Int := smF fun i => p.getD i 0
theorem totF_bd {p : List Int} (h : ∀ i, i < p.length → 0 ≤ p.getD i 0 ∧ p.getD i 0 ≤ 1000) : ∀ n : Nat, n ≤ p.length → 0 ≤ totF p n ∧ totF p n ≤ 1000 * n
  | 0, _ => by simp [smF]
  | n + 1, hn => by
    have := totF_bd h n (by omega)
    have := h n (by omega)
    have e : totF p (n + 1) = totF p n + p.getD n 0 := rfl
    rw [e]
    omega
theorem sumT_bd {p : List Int} (h : ∀ i, 0 ≤ p.getD i 0 ∧ p.getD i 0 ≤ 1000) : ∀ T : List Int, 0 ≤ sumT p T ∧ sumT p T ≤ 1000 * T.length
  | [] => by simp [sumT]
  | a :: T => by
    have := sumT_bd h T
    have := h a.toNat
    rw [sumT, List.length_cons]
    omega
theorem C46 {x : Se} {p : List Int} : (x.2.2.1.length ≤ 1000000 ∧ x.2.2.2.length ≤ 1000000 ∧ p.length ≤ 1000000) → PFD Tryz.prog 46 [sev x, .c (ints p)] (.tup [vi .i64 (if (seE x).2 = 0 ∧ pcE x p = 0 then totF p p.length else 0), vi .i64 (if (seE x).2 = 0 then pcE x p else (seE x).2)]) := fun ⟨hl1, hl2, hp⟩ => by
  have c43 := C43 (x := x) ⟨hl1, hl2⟩
  by_cases h0 : (seE x).2 = 0
  · have hO := seE_ok.1 h0
    have hn := hO.n
    have hm := hO.len
    have c111 := C111 hO
    rw [if_pos h0]
    rw [h0] at c43
    obtain ⟨q, hq⟩ : ∃ q, q = pcE x p := ⟨_, rfl⟩
    obtain ⟨r, hr⟩ : ∃ r, r = if (seE x).2 = 0 ∧ pcE x p = 0 then totF p p.length else 0 := ⟨_, rfl⟩
    rw [← hr, ← hq]
    have hr0 : ¬ pcE x p = 0 → r = 0 := fun h => by rw [hr, if_neg fun hh => h hh.2]
    by_cases hl : p.length = x.2.2.2.length
    · have hl' : ((p.length : Nat) : Int) = ((x.2.2.2.length : Nat) : Int) := by omega
      have hf : fstE [0, unb (decide (((p.length : Nat) : Int) = ((x.2.2.2.length : Nat) : Int))) 10] = 0 := by rw [decide_eq_true hl']; decide
      refine pi2 fn46 ?_
      (repeat' first | (refine Owe.same ?_; first | refine Owe.o ?_ | refine Owe.mk ?_ ?_) | (refine Fork.same ?_; (first | refine fkY ?_ | refine fkF ?_ | ((first | refine fkD ?_ ?_ | refine fkN ?_ ?_ | refine fkM ?_ ?_) <;> intro h))) | ((first | refine OpsL.same ?_ | refine OpsDL.same ?_); first | refine oK c43 rfl rfl rfl ?_ | refine oK C85 rfl rfl rfl ?_) | refine MvQ.stay ?_)
      (repeat' first | (refine Owe.same ?_; first | refine Owe.o ?_ | refine Owe.mk ?_ ?_) | (refine Fork.same ?_; (first | refine fkY ?_ | refine fkF ?_ | ((first | refine fkD ?_ ?_ | refine fkN ?_ ?_ | refine fkM ?_ ?_) <;> intro h))) | ((first | refine OpsL.same ?_ | refine OpsDL.same ?_); first | refine pK C71 rfl rfl ?_) | refine MvQ.stay ?_)
      refine Sat.lp0 (fun k : Nat => [(36, vi .i64 k), (35, vi .i64 p.length), (34, .c (ints p)), (8, vi .i64 (totF p k)), (2, .c (.rp (seD x))), (1, .c (ints p))]) (fun k => k ≤ p.length ∧ ∀ i, i < k → 0 ≤ p.getD i 0 ∧ p.getD i 0 ≤ 1000) (fun k => p.length - k) 0 ⟨Nat.zero_le _, fun i hi => by omega⟩ (by ((first | refine qen ?_ | refine qvs ?_ | refine qeq ?_ | refine qst ?_ | refine qv ?_ | refine qc ?_ | refine qe ?_ | refine qcs ?_ | skip); (repeat' first | exact rfl | (refine qS ?_; constructor)))) ?_
      intro k hk
      refine Fork.dec (fun hlt => ?_) (fun hlt => ?_)
      · have hlt : k < p.length := Int.ofNat_lt.1 hlt
        have e : totF p (k + 1) = totF p k + p.getD k 0 := rfl
        have hb : 0 ≤ totF p k ∧ totF p k ≤ 1000 * k := by
          have : ∀ n, n ≤ k → 0 ≤ totF p n ∧ totF p n ≤ 1000 * n := fun n => by
            induction n with
            | zero => intro _; simp [smF]
            | succ n ih =>
              intro hn
              have := ih (by omega)
              have := hk.2 n (by omega)
              have e : totF p (n + 1) = totF p n + p.getD n 0 := rfl
              rw [e]; omega
          exact this k (Nat.le_refl _)
        generalize totF p k = s at *
        (repeat' first | (refine Owe.same ?_; first | refine Owe.o ?_ | refine Owe.mk ?_ ?_) | (refine Fork.same ?_; (first | refine fkD ?_ ?_ | refine fkN ?_ ?_ | refine fkM ?_ ?_) <;> intro h) | ((first | refine OpsL.same ?_ | refine OpsDL.same ?_); first | refine pK C84 rfl rfl ?_) | refine MvQ.stay ?_)
        · have h2 := pcE_2 hl hlt h
          rw [hq, h2, hr0 (by rw [h2]; decide)]
          (refine rqK rfl ?_; (repeat' first | exact rfl | (refine qS ?_; constructor)))
        · simp only [R64]; omega
        · refine again0 (k + 1) ⟨hlt, fun i hi => ?_⟩ (by omega) ?_
          · rcases Nat.lt_succ_iff_lt_or_eq.1 hi with h9 | rfl
            · exact hk.2 i h9
            · exact h
          · rw [e]; ((first | refine qen ?_ | refine qvs ?_ | refine qeq ?_ | refine qst ?_ | refine qv ?_ | refine qc ?_ | refine qe ?_ | refine qcs ?_ | skip); (repeat' first | exact rfl | (refine qS ?_; constructor)))
      · have hlt : ¬ ((k : Int) < (p.length : Int)) := hlt
        have hkp : k = p.length := by omega
        have hP : prcOk p := fun i hi => hk.2 i (by omega)
        have hPa := prcOk_all hP
        rw [hkp]
        have htb := totF_bd hP p.length (Nat.le_refl _)
        generalize totF p p.length = tot at *
        (repeat' first | (refine Owe.same ?_; first | refine Owe.o ?_ | refine Owe.mk ?_ ?_) | (refine Fork.same ?_; (first | refine fkY ?_ | refine fkF ?_ | ((first | refine fkD ?_ ?_ | refine fkN ?_ ?_ | refine fkM ?_ ?_) <;> intro h))) | ((first | refine OpsL.same ?_ | refine OpsDL.same ?_); first | refine oK c111 rfl rfl rfl ?_) | refine MvQ.stay ?_)
        refine Sat.lp0 (fun k : Nat => [(50, vi .i64 k), (49, vi .i64 (snS x).length), (48, .c (lls (snS x))), (8, vi .i64 tot), (2, .c (.rp (seD x))), (1, .c (ints p))]) (fun k => k ≤ x.2.2.1.length ∧ ∀ i, i < k → vsF x p i x.2.2.2.length ≤ (x.2.2.1.getD i vwd).2) (fun k => x.2.2.1.length - k) 0 ⟨Nat.zero_le _, fun i hi => by omega⟩ (by ((first | refine qen ?_ | refine qvs ?_ | refine qeq ?_ | refine qst ?_ | refine qv ?_ | refine qc ?_ | refine qe ?_ | refine qcs ?_ | skip); (repeat' first | exact rfl | (refine qS ?_; constructor)))) ?_
        intro k hk
        have hsl : (snS x).length = x.2.2.1.length := accL_len _ _
        refine Fork.dec (fun hlt => ?_) (fun hlt => ?_)
        · have hlt : k < x.2.2.1.length := by have := Int.ofNat_lt.1 hlt; omega
          have hT : (snS x).getD k [] = snR x.1 x.2.2.2 (x.2.2.1.getD k vwd).1 := accL_get _ hlt
          have hTb : ∀ a ∈ (snS x).getD k [], 0 ≤ a ∧ a < p.length := fun a ha => by
            rw [hT] at ha
            have := snR_bd ha
            omega
          have hTl := snR_len hO k
          have hTs : sumT p ((snS x).getD k []) = vsF x p k x.2.2.2.length := by rw [hT]; exact vs_eq hO hlt
          (repeat' first | (refine Owe.same ?_; first | refine Owe.o ?_ | refine Owe.mk ?_ ?_) | (refine Fork.same ?_; (first | refine fkD ?_ ?_ | refine fkN ?_ ?_ | refine fkM ?_ ?_) <;> intro h) | refine MvQ.stay ?_)
          generalize hTT : (snS x).getD (k : Int).toNat [] = T at *
          have hTT' : (snS x).getD k [] = T := hTT
          rw [hTT'] at hTb hTl hTs
          (repeat' first | (refine Owe.same ?_; first | refine Owe.o ?_ | refine Owe.mk ?_ ?_) | (refine Fork.same ?_; (first | refine fkD ?_ ?_ | refine fkN ?_ ?_ | refine fkM ?_ ?_) <;> intro h) | refine MvQ.stay ?_)
          refine Sat.lp0 (fun j : Nat => [(57, vi .i64 j), (56, vi .i64 T.length), (55, .c (ints T)), (13, vi .i64 (sumT p (T.take j))), (11, vi .i64 k), (50, vi .i64 k), (49, vi .i64 (snS x).length), (48, .c (lls (snS x))), (8, vi .i64 tot), (2, .c (.rp (seD x))), (1, .c (ints p))]) (fun j => j ≤ T.length) (fun j => T.length - j) 0 (Nat.zero_le _) (by ((first | refine qen ?_ | refine qvs ?_ | refine qeq ?_ | refine qst ?_ | refine qv ?_ | refine qc ?_ | refine qe ?_ | refine qcs ?_ | skip); (repeat' first | exact rfl | (refine qS ?_; constructor)))) ?_
          intro j hj
          refine Fork.dec (fun hlj => ?_) (fun hlj => ?_)
          · have hlj : j < T.length := Int.ofNat_lt.1 hlj
            have e := sumT_app p (T.getD j 0) (T.take j)
            rw [← take_app T j hlj] at e
            have hb := sumT_bd hPa (T.take j)
            have hbl : (T.take j).length ≤ j := by rw [List.length_take]; omega
            have ha := hTb _ (getD_mem 0 hlj)
            have hpa := hPa (T.getD j 0).toNat
            generalize sumT p (T.take j) = s at *
            (repeat' first | (refine Owe.same ?_; first | refine Owe.o ?_ | refine Owe.mk ?_ ?_) | (refine Fork.same ?_; (first | refine fkD ?_ ?_ | refine fkN ?_ ?_ | refine fkM ?_ ?_) <;> intro h) | refine MvQ.stay ?_)
            refine again0 (j + 1) hlj (by omega) ?_
            rw [e]; ((first | refine qen ?_ | refine qvs ?_ | refine qeq ?_ | refine qst ?_ | refine qv ?_ | refine qc ?_ | refine qe ?_ | refine qcs ?_ | skip); (repeat' first | exact rfl | (refine qS ?_; constructor)))
          · have hjl : j = T.length := by omega
            subst hjl
            rw [List.take_length, hTs]
            generalize hs : vsF x p k x.2.2.2.length = s at *
            (repeat' first | (refine Owe.same ?_; first | refine Owe.o ?_ | refine Owe.mk ?_ ?_) | (refine Fork.same ?_; (first | refine fkD ?_ ?_ | refine fkN ?_ ?_ | refine fkM ?_ ?_) <;> intro h) | refine MvQ.stay ?_)
            · have h2 := pcE_19 hl hP hlt (by rw [hs]; exact h)
              rw [hq, h2, hr0 (by rw [h2]; decide)]
              (refine rqK rfl ?_; (repeat' first | exact rfl | (refine qS ?_; constructor)))
            · refine again0 (k + 1) ⟨hlt, fun i hi => ?_⟩ (by omega) (by ((first | refine qen ?_ | refine qvs ?_ | refine qeq ?_ | refine qst ?_ | refine qv ?_ | refine qc ?_ | refine qe ?_ | refine qcs ?_ | skip); (repeat' first | exact rfl | (refine qS ?_; constructor))))
              rcases Nat.lt_succ_iff_lt_or_eq.1 hi with h9 | rfl
              · exact hk.2 i h9
              · rw [hs]; exact Int.not_lt.1 h
        · have hlt : ¬ (k < x.2.2.1.length) := fun hh => hlt (Int.ofNat_lt.2 (by omega))
          have h2 := pcE_0 hl hP fun i hi => hk.2 i (by omega)
          have e1 : q = 0 := hq.trans h2
          have e2 : r = tot := by rw [hr, if_pos ⟨h0, h2⟩]
          rw [e1, e2]
          (repeat' first | (refine Owe.same ?_; first | refine Owe.o ?_ | refine Owe.mk ?_ ?_) | (refine Fork.same ?_; (first | refine fkD ?_ ?_ | refine fkN ?_ ?_ | refine fkM ?_ ?_) <;> intro h) | refine MvQ.stay ?_)
          (refine rqK rfl ?_; (repeat' first | exact rfl | (refine qS ?_; constructor)))
    · have e := pcE_10 hl
      have hl' : ¬ ((p.length : Nat) : Int) = ((x.2.2.2.length : Nat) : Int) := by omega
      rw [hq, e, hr0 (by rw [e]; decide)]
      refine pi2 fn46 ?_
      (repeat' first | (refine Owe.same ?_; first | refine Owe.o ?_ | refine Owe.mk ?_ ?_) | (refine Fork.same ?_; (first | refine fkY ?_ | refine fkF ?_ | ((first | refine fkD ?_ ?_ | refine fkN ?_ ?_ | refine fkM ?_ ?_) <;> intro h))) | ((first | refine OpsL.same ?_ | refine OpsDL.same ?_); first | refine oK c43 rfl rfl rfl ?_ | refine oK C85 rfl rfl rfl ?_) | refine MvQ.stay ?_)
      (repeat' first | (refine Owe.same ?_; first | refine Owe.o ?_ | refine Owe.mk ?_ ?_) | (refine Fork.same ?_; (first | refine fkY ?_ | refine fkF ?_ | ((first | refine fkD ?_ ?_ | refine fkN ?_ ?_ | refine fkM ?_ ?_) <;> intro h))) | ((first | refine OpsL.same ?_ | refine OpsDL.same ?_); first | refine pK C71 rfl rfl ?_) | refine MvQ.stay ?_)
      · (refine rqK rfl ?_; (repeat' first | exact rfl | (refine qS ?_; constructor)))
        rw [decide_eq_false hl']; decide
      · rw [decide_eq_false hl'] at h; exact absurd h (by decide)
  · rw [if_neg h0, if_neg fun hh => h0 hh.1]
    generalize (seE x).2 = e at *
    refine pi2 fn46 ?_
    (repeat' first | (refine Owe.same ?_; first | refine Owe.o ?_ | refine Owe.mk ?_ ?_) | (refine Fork.same ?_; (first | refine fkY ?_ | refine fkF ?_ | ((first | refine fkD ?_ ?_ | refine fkN ?_ ?_ | refine fkM ?_ ?_) <;> intro h))) | ((first | refine OpsL.same ?_ | refine OpsDL.same ?_); first | refine oK c43 rfl rfl rfl ?_ | refine oK C85 rfl rfl rfl ?_) | refine MvQ.stay ?_)
    (repeat' first | (refine Owe.same ?_; first | refine Owe.o ?_ | refine Owe.mk ?_ ?_) | (refine Fork.same ?_; (first | refine fkY ?_ | refine fkF ?_ | ((first | refine fkD ?_ ?_ | refine fkN ?_ ?_ | refine fkM ?_ ?_) <;> intro h))) | ((first | refine OpsL.same ?_ | refine OpsDL.same ?_); first | refine pK C71 rfl rfl ?_) | refine MvQ.stay ?_)
    · (refine rqK rfl ?_; (repeat' first | exact rfl | (refine qS ?_; constructor)))
      exact fst_c h0
    · exact absurd ((fst_c h0).symm.trans h) h0
end Go.Pw

set_option linter.unusedSimpArgs false
set_option maxHeartbeats 4000000
namespace Go.Pw
set_option maxRecDepth 2000
open Go Go.Proofs A1 A2 A3 A4
theorem bestK_no {c : List Int → Int × Bool} {n : Nat} : ∀ {b : Nat}, (bestK c n b).ok = false → (bestK c n b).l = [] ∧ (bestK c n b).p = 0
  | 0, _ => ⟨rfl, rfl⟩
  | b + 1, h => by
    simp only [bestK] at h ⊢
    split at h
    · exact absurd h Bool.noConfusion
    · rename_i hn
      rw [if_neg hn]
      exact bestK_no h
end Go.Pw

set_option linter.unusedSimpArgs false
namespace Go.Pw
set_option maxRecDepth 2000
open Go Go.Proofs A1 A2 A3 A4
theorem smF_add {f g : Nat → Int} : ∀ n, smF (fun i => f i + g i) n = smF f n + smF g n
  | 0 => rfl
  | n + 1 => by simp only [smF, smF_add n]; omega
theorem smF_le {f g : Nat → Int} : ∀ {n : Nat}, (∀ i, i < n → f i ≤ g i) → smF f n ≤ smF g n
  | 0, _ => Int.le_refl _
  | n + 1, h => by
    have := smF_le (n := n) fun i hi => h i (by omega)
    have := h n (by omega)
    simp only [smF]; omega
theorem smF_nn {f : Nat → Int} (h : ∀ i, 0 ≤ f i) : ∀ n, 0 ≤ smF f n
  | 0 => Int.le_refl _
  | n + 1 => by
    have := smF_nn h n
    have := h n
    simp only [smF]; omega
theorem smF_one {f : Nat → Int} (h : ∀ i, 0 ≤ f i) {j : Nat} : ∀ {n : Nat}, j < n → f j ≤ smF f n
  | 0, hj => absurd hj (Nat.not_lt_zero _)
  | n + 1, hj => by
    have h1 := smF_nn h n
    have h2 := h n
    simp only [smF]
    rcases Nat.lt_succ_iff_lt_or_eq.1 hj with h3 | rfl
    · have := smF_one h h3; omega
    · omega
/-- Prices that are accepted add up to no more than a cover. -/
theorem tot_le {x : Se} {p t : List Int} (hlen : p.length = x.2.2.2.length) (hP : prcOk p) (hv : vwsOk x p) (hc : cvrB x t = true) (ht : ∀ y ∈ t, 0 ≤ y ∧ y < x.2.2.1.length) : totF p p.length ≤ cvC x.2.2.1 t t.length := by
  have hPa := prcOk_all hP
  have h1 : ∀ k, k ≤ t.length → smF (fun j => vsF x p (t.getD j 0).toNat x.2.2.2.length) k ≤ cvC x.2.2.1 t k := fun k => by
    induction k with
    | zero => intro _; exact Int.le_refl _
    | succ k ih =>
      intro hk
      have := ih (by omega)
      have h2 := ht _ (getD_mem 0 (show k < t.length by omega))
      have := hv (t.getD k 0).toNat (by omega)
      rw [cvC]; simp only [smF]; omega
  have h2 : ∀ k, smF (fun j => vsF x p (t.getD j 0).toNat x.2.2.2.length) k = smF (fun i => smF (fun j => if seesB x (t.getD j 0).toNat (x.2.2.2.getD i 0) = true then p.getD i 0 else 0) k) x.2.2.2.length := fun k => by
    induction k with
    | zero =>
      have : ∀ n, smF (fun i => smF (fun j => if seesB x (t.getD j 0).toNat (x.2.2.2.getD i 0) = true then p.getD i 0 else 0) 0) n = 0 := fun n => by
        induction n with
        | zero => rfl
        | succ n ih => rw [smF, ih]; rfl
      rw [this]; rfl
    | succ k ih =>
      rw [smF, ih]
      simp only [smF]
      rw [smF_add]
  refine Int.le_trans ?_ (h1 t.length (Nat.le_refl _))
  rw [h2, hlen]
  refine smF_le fun i hi => ?_
  have hcov := List.all_eq_true.1 hc i (List.mem_range.2 hi)
  rw [covB, List.any_eq_true] at hcov
  obtain ⟨j, hj, hs⟩ := hcov
  have hj := List.mem_range.1 hj
  have := smF_one (f := fun j => if seesB x (t.getD j 0).toNat (x.2.2.2.getD i 0) = true then p.getD i 0 else 0) (fun j => by split; exact (hPa i).1; exact Int.le_refl _) hj
  rw [if_pos hs] at this
  exact this
theorem fltL_congr {f g : Nat → Bool} : ∀ {n : Nat}, (∀ i, i < n → f i = g i) → fltL f n = fltL g n
  | 0, _ => rfl
  | n + 1, h => by rw [fltL_succ, fltL_succ, h n (by omega), fltL_congr fun i hi => h i (by omega)]
theorem sub_mod {n s : Nat} : subL n s = subL n (s % 2 ^ n) := fltL_congr fun i hi => by rw [Nat.testBit_mod_two_pow, decide_eq_true hi, Bool.true_and]
/-- Any cover costs no less than the best. -/
theorem best_any {x : Se} {s : Nat} (h : cvrB x (subL x.2.2.1.length s) = true) : (cvE x).ok = true ∧ (cvE x).p ≤ cvC x.2.2.1 (subL x.2.2.1.length s) (subL x.2.2.1.length s).length := by
  rw [sub_mod] at h ⊢
  exact (best_p (c := cvD x) (n := x.2.2.1.length) (2 ^ x.2.2.1.length)).1 (s % 2 ^ x.2.2.1.length) (Nat.mod_lt _ (Nat.pow_pos (by decide))) h
/-- A search with a view less. -/
abbrev fewS (x : Se) : Se := (x.1, x.2.1, x.2.2.1.take (x.2.2.1.length - 1), x.2.2.2)
theorem take_getD {α : Type} {l : List α} {d : α} {n i : Nat} (h : i < n) : (l.take n).getD i d = l.getD i d := by
  rw [List.getD_eq_getElem?_getD, List.getElem?_take, if_pos h, ← List.getD_eq_getElem?_getD]
theorem fewS_ok {x : Se} (hO : SeOk x) : SeOk (fewS x) := by
  have hl : (fewS x).2.2.1.length = x.2.2.1.length - 1 := by simp
  refine ⟨hO.w, hO.h, ?_, fun i hi => ?_, hO.m, hO.s⟩
  · have := hO.n; omega
  · rw [hl] at hi
    show ryOk ((x.2.2.1.take (x.2.2.1.length - 1)).getD i vwd).1 x.1 x.2.1 ∧ 0 ≤ ((x.2.2.1.take (x.2.2.1.length - 1)).getD i vwd).2 ∧ ((x.2.2.1.take (x.2.2.1.length - 1)).getD i vwd).2 ≤ 1000
    rw [take_getD hi]
    exact hO.v i (by omega)
theorem cvC_few {x : Se} {t : List Int} (ht : ∀ y ∈ t, 0 ≤ y ∧ y < (x.2.2.1.length - 1 : Nat)) : ∀ k, k ≤ t.length → cvC (fewS x).2.2.1 t k = cvC x.2.2.1 t k
  | 0, _ => rfl
  | k + 1, hk => by
    have h := ht _ (getD_mem 0 (show k < t.length by omega))
    have e : ((fewS x).2.2.1.getD (t.getD k 0).toNat vwd) = x.2.2.1.getD (t.getD k 0).toNat vwd := take_getD (by omega)
    rw [cvC, cvC, cvC_few ht k (by omega), e]
theorem all_congr {f g : Nat → Bool} {n : Nat} (h : ∀ i, i < n → f i = g i) : (List.range n).all f = (List.range n).all g := by
  rw [Bool.eq_iff_iff, List.all_eq_true, List.all_eq_true]
  exact ⟨fun hh i hi => by rw [← h i (List.mem_range.1 hi)]; exact hh i hi, fun hh i hi => by rw [h i (List.mem_range.1 hi)]; exact hh i hi⟩
theorem any_congr {f g : Nat → Bool} {n : Nat} (h : ∀ i, i < n → f i = g i) : (List.range n).any f = (List.range n).any g := by
  rw [Bool.eq_iff_iff, List.any_eq_true, List.any_eq_true]
  exact ⟨fun ⟨i, hi, hh⟩ => ⟨i, hi, by rw [← h i (List.mem_range.1 hi)]; exact hh⟩, fun ⟨i, hi, hh⟩ => ⟨i, hi, by rw [h i (List.mem_range.1 hi)]; exact hh⟩⟩
theorem cvD_few {x : Se} {t : List Int} (ht : ∀ y ∈ t, 0 ≤ y ∧ y < (x.2.2.1.length - 1 : Nat)) : cvD (fewS x) t = cvD x t := by
  refine Prod.ext (cvC_few ht _ (Nat.le_refl _)) ?_
  refine all_congr fun i _ => any_congr fun k hk => ?_
  have h := ht _ (getD_mem 0 hk)
  have e : ((fewS x).2.2.1.getD (t.getD k 0).toNat vwd) = x.2.2.1.getD (t.getD k 0).toNat vwd := take_getD (by omega)
  simp only [seesB, e]
theorem few_law {x : Se} (hn : 0 < x.2.2.1.length) (h : (cvE (fewS x)).ok = true) : (cvE x).p ≤ (cvE (fewS x)).p := by
  have hl : (fewS x).2.2.1.length = x.2.2.1.length - 1 := by simp
  obtain ⟨b, hb, h1, h2, h3⟩ := (best_p (c := cvD (fewS x)) (n := (fewS x).2.2.1.length) (2 ^ (fewS x).2.2.1.length)).2 h
  rw [hl] at hb h1 h2 h3
  have e := cvD_few (x := x) (t := subL (x.2.2.1.length - 1) b) (fun y hy => subL_mem hy)
  have e2 : subL x.2.2.1.length b = subL (x.2.2.1.length - 1) b := by
    obtain ⟨n, hn⟩ : ∃ n, x.2.2.1.length = n + 1 := ⟨x.2.2.1.length - 1, by omega⟩
    rw [hn] at hb ⊢
    rw [show n + 1 - 1 = n by omega] at hb ⊢
    rw [subL, fltL_succ, if_neg (by rw [Nat.testBit_lt_two_pow hb]; decide)]
  rw [e] at h2 h3
  rw [← e2] at h2 h3
  have := (best_any (x := x) (s := b) h3).2
  show (cvE x).p ≤ (bestK (cvD (fewS x)) (fewS x).2.2.1.length (2 ^ (fewS x).2.2.1.length)).p
  rw [hl, h2]
  exact this
end Go.Pw

set_option linter.unusedSimpArgs false
set_option maxHeartbeats 4000000
namespace Go.Pw
set_option maxRecDepth 2000
open Go Go.Proofs A1 A2 A3 A4
theorem PFD.riC {P : Program} {f : FuncId} {args args' : List V} {v : V} (h : PFD P f args' v) (hr : RIs args args') : PFD P f args v :=
  ⟨h.h.1, h.h.2.1, fun Γ w us hs hn ha => h.h.2.2 Γ w us hs hn (hr.rep ha)⟩
theorem few_ri (x : Se) : RI (.agg [int x.1, int x.2.1, .d (.sl 6 ((x.2.2.1.length : Int) - 1).toNat fun i => r6 (x.2.2.1.getD i vwd)), ints x.2.2.2]) (sev (fewS x)) := by
  have e : ((x.2.2.1.length : Int) - 1).toNat = (x.2.2.1.take (x.2.2.1.length - 1)).length := by rw [List.length_take]; omega
  rw [e]
  refine VEq.ri (VEq.agg _ _ rfl fun i a b ha hb => ?_)
  match i with
  | 0 => cases ha; cases hb; exact .refl _
  | 1 => cases ha; cases hb; exact .refl _
  | 2 =>
    cases ha; cases hb
    refine .d _ _ (.sl _ _ _ _ fun i hi => ?_)
    rw [List.length_take] at hi
    show r6 (x.2.2.1.getD i vwd) = r6 ((x.2.2.1.take (x.2.2.1.length - 1)).getD i vwd)
    rw [take_getD (by omega)]
  | 3 => cases ha; cases hb; exact .refl _
  | i + 4 => cases ha
theorem C50n {x : Se} {p : List Int} : ¬ p.length = x.2.2.2.length → PFD Tryz.prog 50 [sev x, .c (ints p)] (vi .i64 10) := fun hl => by
  refine pi1 fn50 ?_
  (repeat' first | (refine Owe.same ?_; first | refine Owe.o ?_ | refine Owe.mk ?_ ?_) | (refine Fork.same ?_; (first | refine fkY ?_ | refine fkF ?_ | ((first | refine fkD ?_ ?_ | refine fkN ?_ ?_ | refine fkM ?_ ?_) <;> intro h))) | ((first | refine OpsL.same ?_ | refine OpsDL.same ?_); first | refine oK C14 rfl rfl rfl ?_) | refine MvQ.stay ?_)
  (refine rqK rfl ?_; (repeat' first | exact rfl | (refine qS ?_; constructor)))
theorem C8 {x : Se} {set : Int} {p : List Int} : w64 set → PFD Tryz.prog 8 [sev x, vi .i64 set, .c (ints p)] (vbl true) := fun hset => by
  have c42 := C42 (x := x)
  by_cases hP : vwsB x = true ∧ (seE x).2 = 0 ∧ x.2.2.1.length ≤ 6 ∧ pcE x p = 0
  · obtain ⟨hv, h0, hn6, h1⟩ := hP
    rw [hv] at c42
    have hv := of_decide_eq_true hv
    have hO := seE_ok.1 h0
    have hml := hO.len
    have hP : p.length = x.2.2.2.length ∧ prcOk p ∧ vwsOk x p := by
      rw [pcE] at h1
      split at h1
      · split at h1
        · split at h1
          · exact ⟨by assumption, by assumption, by assumption⟩
          · exact absurd h1 (by decide)
        · exact absurd h1 (by decide)
      · exact absurd h1 (by decide)
    have hpl : p.length ≤ 1000000 := by omega
    have c51 := C51 (x := x) (by omega)
    have c50 := C50 (x := x) (p := p) ⟨hO, hpl⟩
    have c44 := C44 (x := x) ⟨by omega, by omega⟩
    have c45 := C45 (x := x) ⟨by omega, by omega⟩
    have c47 := C47 (l := p) (by omega)
    have c46 := C46 (x := x) (p := p) ⟨by omega, by omega, by omega⟩
    rw [if_pos h0, if_pos h0, if_pos h0, cvB_eq hO] at c45
    rw [if_pos ⟨h0, h1⟩, if_pos h0, h1] at c46
    rw [h0] at c51
    rw [h1] at c50
    have c33 := C33 (n := set) (b := 64) ⟨hset, by decide, by decide⟩
    have hsb : 0 ≤ set % 64 ∧ set % 64 < 64 := ⟨Int.emod_nonneg _ (by decide), Int.emod_lt_of_pos _ (by decide)⟩
    obtain ⟨s, hs⟩ : ∃ s : Nat, (s : Int) = set % 64 := ⟨(set % 64).toNat, by omega⟩
    rw [← hs] at c33 hsb
    have hany := best_any (x := x) (s := s)
    obtain ⟨hb1, hb2⟩ := best_p (c := cvD x) (n := x.2.2.1.length) (2 ^ x.2.2.1.length)
    have hbl := bestK_len (cvD x) x.2.2.1.length (2 ^ x.2.2.1.length)
    change (cvE x).ok = true → ∃ y, y < 2 ^ x.2.2.1.length ∧ (cvE x).l = subL x.2.2.1.length y ∧ (cvE x).p = cvC x.2.2.1 (subL x.2.2.1.length y) (subL x.2.2.1.length y).length ∧ cvrB x (subL x.2.2.1.length y) = true at hb2
    change (cvE x).l.length ≤ _ at hbl
    have hfew := few_law (x := x)
    have hBp : (cvE x).ok = true → totF p p.length ≤ (cvE x).p := fun h => by
      obtain ⟨y, _, _, e2, e3⟩ := hb2 h
      rw [e2]
      exact tot_le hP.1 hP.2.1 hP.2.2 e3 fun z hz => subL_mem hz
    have hsl : (subL x.2.2.1.length s).length ≤ x.2.2.1.length := fltL_len _ _
    have c52a := C52 (x := x) (t := subL x.2.2.1.length s) ⟨hO, by omega, fun y hy => subL_mem hy⟩
    have c53a := C53 (x := x) (t := subL x.2.2.1.length s) ⟨hO, by omega, fun y hy => subL_mem hy⟩
    obtain ⟨B, hB⟩ : ∃ B, B = cvE x := ⟨_, rfl⟩
    rw [← hB] at c45 hany hb2 hbl hfew hBp
    generalize totF p p.length = tot at *
    rcases hok : B.ok with _ | _
    · rw [hok] at c45 hany
      simp only [unb] at c45
      have hno : cvrB x (subL x.2.2.1.length s) = false := by
        rw [Bool.eq_false_iff]; intro h; exact absurd (hany h).1 Bool.noConfusion
      rw [hno] at c52a
      refine pi1 fn8 ?_
      (repeat' first | (refine Owe.same ?_; first | refine Owe.o ?_ | refine Owe.mk ?_ ?_) | (refine Fork.same ?_; (first | refine fkY ?_ | refine fkF ?_ | ((first | refine fkD ?_ ?_ | refine fkN ?_ ?_ | refine fkM ?_ ?_) <;> intro h))) | ((first | refine OpsL.same ?_ | refine OpsDL.same ?_); first | refine oK C10 rfl rfl rfl ?_ | refine oK c42 rfl rfl rfl ?_ | refine oK c51 rfl rfl rfl ?_ | refine oK c50 rfl rfl rfl ?_ | refine oK c44 rfl rfl rfl ?_ | refine oK c45 rfl rfl rfl ?_ | refine oK c47 rfl rfl rfl ?_ | refine oK c46 rfl rfl rfl ?_) | refine MvQ.stay ?_)
      refine Sat.nilS 12 3 1 (fun i => r1 (([] : List Int).getD i 0)) rfl ?_
      refine Sat.lp (fun i : Nat => ⟨[(13, vi .i64 i), (3, .c (.rp (seD x))), (1, vi .i64 set), (12, .c (.ms 0 (fltL s.testBit i).length)), (7, .c (ints B.l)), (8, vi .i64 B.p), (9, vi .i64 12), (10, vi .i64 tot)], [(0, rowv 3 1 r1 0 (fltL s.testBit i))], 1⟩)
        (fun i => i ≤ x.2.2.1.length) (fun i => x.2.2.1.length - i) 0 [0] (Nat.zero_le _) ?_ ?_
      · (refine qis ?_ ?_ <;> (repeat' first | exact rfl | (refine qS ?_; constructor)))
      intro i hi
      refine Fork.dec (fun hlt => ?_) (fun hlt => ?_)
      · have hlt : i < x.2.2.1.length := Int.ofNat_lt.1 hlt
        have hbit := bit_i64 (b := s) (i := i) (by omega) (by omega)
        have f1 := fltL_len s.testBit i
        have f2 := fltL_succ s.testBit i
        (repeat' first | (refine Owe.same ?_; first | refine Owe.o ?_ | refine Owe.mk ?_ ?_) | (refine Fork.same ?_; (first | refine fkY ?_ | refine fkF ?_ | ((first | refine fkD ?_ ?_ | refine fkN ?_ ?_ | refine fkM ?_ ?_) <;> intro h))) | ((first | refine OpsL.same ?_ | refine OpsDL.same ?_); first | refine oK c33 rfl rfl rfl ?_) | refine MvQ.stay ?_)
        · rw [decide_eq_true h] at hbit
          rw [if_pos hbit.symm] at f2
          refine again (i + 1) [1] hlt (by omega) ?_
          (refine qis ?_ ?_ <;> (repeat' first | exact rfl | (refine qS ?_; constructor)))
          · rw [f2]; simp
          · exact f2
        · rw [decide_eq_false h] at hbit
          rw [if_neg (by rw [← hbit]; decide)] at f2
          refine again (i + 1) [0] hlt (by omega) ?_
          rw [f2]
          (refine qis ?_ ?_ <;> (repeat' first | exact rfl | (refine qS ?_; constructor)))
      have : i = x.2.2.1.length := by have : ¬ i < x.2.2.1.length := fun hh => hlt (Int.ofNat_lt.2 hh); omega
      subst this
      clear hlt
      (repeat' first | (refine Owe.same ?_; first | refine Owe.o ?_ | refine Owe.mk ?_ ?_) | (refine Fork.same ?_; (first | refine fkD ?_ ?_ | refine fkN ?_ ?_ | refine fkM ?_ ?_) <;> intro h))
      refine MvQ.frz 12 _ rfl rfl (Nat.le_refl _) ?_
      (repeat' first | (refine Owe.same ?_; first | refine Owe.o ?_ | refine Owe.mk ?_ ?_) | (refine Fork.same ?_; (first | refine fkY ?_ | refine fkF ?_ | ((first | refine fkD ?_ ?_ | refine fkN ?_ ?_ | refine fkM ?_ ?_) <;> intro h))) | ((first | refine OpsL.same ?_ | refine OpsDL.same ?_); first | refine oK c52a rfl rfl rfl ?_) | refine MvQ.stay ?_)
      (repeat' first | (refine Owe.same ?_; first | refine Owe.o ?_ | refine Owe.mk ?_ ?_) | (refine Fork.same ?_; (first | refine fkY ?_ | refine fkF ?_ | ((first | refine fkD ?_ ?_ | refine fkN ?_ ?_ | refine fkM ?_ ?_) <;> intro h))) | ((first | refine OpsL.same ?_ | refine OpsDL.same ?_); first | refine oK C10 rfl rfl rfl ?_) | refine MvQ.stay ?_)
      (refine rqK rfl ?_; (repeat' first | exact rfl | (refine qS ?_; constructor)))
    · rw [hok] at c45
      simp only [unb] at c45
      obtain ⟨y, hy, e1, e2, e3⟩ := hb2 hok
      have hBp := hBp hok
      have hlm : ∀ z ∈ B.l, 0 ≤ z ∧ z < x.2.2.1.length := by rw [e1]; exact fun z hz => subL_mem hz
      have hls : srt B.l := by rw [e1]; exact srt_of fltL_asc
      have c52l := C52 (x := x) (t := B.l) ⟨hO, by omega, hlm⟩
      have c53l := C53 (x := x) (t := B.l) ⟨hO, by omega, hlm⟩
      rw [show cvrB x B.l = true by rw [e1]; exact e3] at c52l
      rw [show cvC x.2.2.1 B.l B.l.length = B.p by rw [e1]; exact e2.symm] at c53l
      have hany2 := fun h => (hany h).2
      clear hany hb1 hb2
      generalize hA : cvC x.2.2.1 (subL x.2.2.1.length s) (subL x.2.2.1.length s).length = ca at *
      generalize hQ : cvrB x (subL x.2.2.1.length s) = qa at *
      refine pi1 fn8 ?_
      (repeat' first | (refine Owe.same ?_; first | refine Owe.o ?_ | refine Owe.mk ?_ ?_) | (refine Fork.same ?_; (first | refine fkY ?_ | refine fkF ?_ | ((first | refine fkD ?_ ?_ | refine fkN ?_ ?_ | refine fkM ?_ ?_) <;> intro h))) | ((first | refine OpsL.same ?_ | refine OpsDL.same ?_); first | refine oK C10 rfl rfl rfl ?_ | refine oK c42 rfl rfl rfl ?_ | refine oK c51 rfl rfl rfl ?_ | refine oK c50 rfl rfl rfl ?_ | refine oK c44 rfl rfl rfl ?_ | refine oK c45 rfl rfl rfl ?_ | refine oK c47 rfl rfl rfl ?_ | refine oK c46 rfl rfl rfl ?_) | refine MvQ.stay ?_)
      refine Sat.nilS 12 3 1 (fun i => r1 (([] : List Int).getD i 0)) rfl ?_
      refine Sat.lp (fun i : Nat => ⟨[(13, vi .i64 i), (3, .c (.rp (seD x))), (1, vi .i64 set), (12, .c (.ms 0 (fltL s.testBit i).length)), (7, .c (ints B.l)), (8, vi .i64 B.p), (9, vi .i64 0), (10, vi .i64 tot)], [(0, rowv 3 1 r1 0 (fltL s.testBit i))], 1⟩)
        (fun i => i ≤ x.2.2.1.length) (fun i => x.2.2.1.length - i) 0 [0] (Nat.zero_le _) ?_ ?_
      · (refine qis ?_ ?_ <;> (repeat' first | exact rfl | (refine qS ?_; constructor)))
      intro i hi
      refine Fork.dec (fun hlt => ?_) (fun hlt => ?_)
      · have hlt : i < x.2.2.1.length := Int.ofNat_lt.1 hlt
        have hbit := bit_i64 (b := s) (i := i) (by omega) (by omega)
        have f1 := fltL_len s.testBit i
        have f2 := fltL_succ s.testBit i
        (repeat' first | (refine Owe.same ?_; first | refine Owe.o ?_ | refine Owe.mk ?_ ?_) | (refine Fork.same ?_; (first | refine fkY ?_ | refine fkF ?_ | ((first | refine fkD ?_ ?_ | refine fkN ?_ ?_ | refine fkM ?_ ?_) <;> intro h))) | ((first | refine OpsL.same ?_ | refine OpsDL.same ?_); first | refine oK c33 rfl rfl rfl ?_) | refine MvQ.stay ?_)
        · rw [decide_eq_true h] at hbit
          rw [if_pos hbit.symm] at f2
          refine again (i + 1) [1] hlt (by omega) ?_
          (refine qis ?_ ?_ <;> (repeat' first | exact rfl | (refine qS ?_; constructor)))
          · rw [f2]; simp
          · exact f2
        · rw [decide_eq_false h] at hbit
          rw [if_neg (by rw [← hbit]; decide)] at f2
          refine again (i + 1) [0] hlt (by omega) ?_
          rw [f2]
          (refine qis ?_ ?_ <;> (repeat' first | exact rfl | (refine qS ?_; constructor)))
      have : i = x.2.2.1.length := by have : ¬ i < x.2.2.1.length := fun hh => hlt (Int.ofNat_lt.2 hh); omega
      subst this
      clear hlt
      (repeat' first | (refine Owe.same ?_; first | refine Owe.o ?_ | refine Owe.mk ?_ ?_) | (refine Fork.same ?_; (first | refine fkD ?_ ?_ | refine fkN ?_ ?_ | refine fkM ?_ ?_) <;> intro h))
      refine MvQ.frz 12 _ rfl rfl (Nat.le_refl _) ?_
      (repeat' first | (refine Owe.same ?_; first | refine Owe.o ?_ | refine Owe.mk ?_ ?_) | (refine Fork.same ?_; (first | refine fkY ?_ | refine fkF ?_ | ((first | refine fkD ?_ ?_ | refine fkN ?_ ?_ | refine fkM ?_ ?_) <;> intro h))) | ((first | refine OpsL.same ?_ | refine OpsDL.same ?_); first | refine oK c52a rfl rfl rfl ?_) | refine MvQ.stay ?_)
      refine Sat.lp0 (fun i : Nat => [(14, vi .i64 i), (12, .c (ints (subL x.2.2.1.length s))), (3, .c (.rp (seD x))), (7, .c (ints B.l)), (8, vi .i64 B.p), (10, vi .i64 tot)]) (fun i => i ≤ B.l.length) (fun i => B.l.length - i) 0 (Nat.zero_le _) (by ((first | refine qen ?_ | refine qvs ?_ | refine qeq ?_ | refine qst ?_ | refine qv ?_ | refine qc ?_ | refine qe ?_ | refine qcs ?_ | skip); (repeat' first | exact rfl | (refine qS ?_; constructor)))) ?_
      intro i hi
      refine Fork.dec (fun hlt => ?_) (fun hlt => ?_)
      · have hlt : i < B.l.length := Int.ofNat_lt.1 hlt
        have hm := hlm _ (getD_mem 0 hlt)
        have c14 := C14 (n := B.l.getD i 0) (lo := 0) (hi := (x.2.2.1.length : Int) - 1)
        rw [decide_eq_true (by omega)] at c14
        have ha : ∀ j : Nat, j + 1 = i → B.l.getD j 0 < B.l.getD i 0 := fun j hj => hls j i (by omega) hlt
        rcases i with _ | i
        · (repeat' first | (refine Owe.same ?_; first | refine Owe.o ?_ | refine Owe.mk ?_ ?_) | (refine Fork.same ?_; (first | refine fkY ?_ | refine fkF ?_ | ((first | refine fkD ?_ ?_ | refine fkN ?_ ?_ | refine fkM ?_ ?_) <;> intro h))) | ((first | refine OpsL.same ?_ | refine OpsDL.same ?_); first | refine oK c14 rfl rfl rfl ?_) | refine MvQ.stay ?_)
          exact again0 1 hlt (by omega) (by ((first | refine qen ?_ | refine qvs ?_ | refine qeq ?_ | refine qst ?_ | refine qv ?_ | refine qc ?_ | refine qe ?_ | refine qcs ?_ | skip); (repeat' first | exact rfl | (refine qS ?_; constructor))))
        · have ha := ha i rfl
          have e : (((i + 1 : Nat) : Int) - 1).toNat = i := by omega
          have ha' : B.l.getD (((i + 1 : Nat) : Int) - 1).toNat 0 < B.l.getD (((i + 1 : Nat) : Int)).toNat 0 := by rw [e]; exact ha
          (repeat' first | (refine Owe.same ?_; first | refine Owe.o ?_ | refine Owe.mk ?_ ?_) | (refine Fork.same ?_; (first | refine fkY ?_ | refine fkF ?_ | ((first | refine fkD ?_ ?_ | refine fkN ?_ ?_ | refine fkM ?_ ?_) <;> intro h))) | ((first | refine OpsL.same ?_ | refine OpsDL.same ?_); first | refine oK c14 rfl rfl rfl ?_) | refine MvQ.stay ?_)
          exact again0 (i + 2) hlt (by omega) (by ((first | refine qen ?_ | refine qvs ?_ | refine qeq ?_ | refine qst ?_ | refine qv ?_ | refine qc ?_ | refine qe ?_ | refine qcs ?_ | skip); (repeat' first | exact rfl | (refine qS ?_; constructor))))
      have : i = B.l.length := by have : ¬ i < B.l.length := fun hh => hlt (Int.ofNat_lt.2 hh); omega
      subst this
      clear hlt
      by_cases hn0 : x.2.2.1.length = 0
      · rcases qa with _ | _
        · (repeat' first | (refine Owe.same ?_; first | refine Owe.o ?_ | refine Owe.mk ?_ ?_) | (refine Fork.same ?_; (first | refine fkY ?_ | refine fkF ?_ | ((first | refine fkD ?_ ?_ | refine fkN ?_ ?_ | refine fkM ?_ ?_) <;> intro h))) | ((first | refine OpsL.same ?_ | refine OpsDL.same ?_); first | refine oK c52l rfl rfl rfl ?_ | refine oK c53l rfl rfl rfl ?_ | refine oK c52a rfl rfl rfl ?_ | refine oK c53a rfl rfl rfl ?_) | refine MvQ.stay ?_)
          (refine rqK rfl ?_; (repeat' first | exact rfl | (refine qS ?_; constructor)))
        · have hany2 := hany2 rfl
          (repeat' first | (refine Owe.same ?_; first | refine Owe.o ?_ | refine Owe.mk ?_ ?_) | (refine Fork.same ?_; (first | refine fkY ?_ | refine fkF ?_ | ((first | refine fkD ?_ ?_ | refine fkN ?_ ?_ | refine fkM ?_ ?_) <;> intro h))) | ((first | refine OpsL.same ?_ | refine OpsDL.same ?_); first | refine oK c52l rfl rfl rfl ?_ | refine oK c53l rfl rfl rfl ?_ | refine oK c52a rfl rfl rfl ?_ | refine oK c53a rfl rfl rfl ?_) | refine MvQ.stay ?_)
          (refine rqK rfl ?_; (repeat' first | exact rfl | (refine qS ?_; constructor)))
      · have hfl : (fewS x).2.2.1.length = x.2.2.1.length - 1 := by simp
        have c45f := C45 (x := fewS x) ⟨by rw [hfl]; omega, by show x.2.2.2.length ≤ 1000000; omega⟩
        have hOf := fewS_ok hO
        rw [if_pos (seE_ok.2 hOf), if_pos (seE_ok.2 hOf), if_pos (seE_ok.2 hOf), cvB_eq hOf] at c45f
        have c45f := PFD.riC c45f (.cons (few_ri x) .nil)
        have hnf := bestK_no (c := cvD (fewS x)) (n := (fewS x).2.2.1.length) (b := 2 ^ (fewS x).2.2.1.length)
        change (cvE (fewS x)).ok = false → (cvE (fewS x)).l = [] ∧ (cvE (fewS x)).p = 0 at hnf
        have hfew := hfew (by omega)
        generalize cvE (fewS x) = F at *
        rcases hF : F.ok with _ | _
        · rw [hF, (hnf hF).2] at c45f
          simp only [unb] at c45f
          rcases qa with _ | _
          · (repeat' first | (refine Owe.same ?_; first | refine Owe.o ?_ | refine Owe.mk ?_ ?_) | (refine Fork.same ?_; (first | refine fkY ?_ | refine fkF ?_ | ((first | refine fkD ?_ ?_ | refine fkN ?_ ?_ | refine fkM ?_ ?_) <;> intro h))) | ((first | refine OpsL.same ?_ | refine OpsDL.same ?_); first | refine oK c52l rfl rfl rfl ?_ | refine oK c53l rfl rfl rfl ?_ | refine oK c52a rfl rfl rfl ?_ | refine oK c53a rfl rfl rfl ?_ | refine oK c44 rfl rfl rfl ?_) | refine MvQ.stay ?_)
            (repeat' first | (refine Owe.same ?_; first | refine Owe.o ?_ | refine Owe.mk ?_ ?_) | (refine Fork.same ?_; (first | refine fkY ?_ | refine fkF ?_ | ((first | refine fkD ?_ ?_ | refine fkN ?_ ?_ | refine fkM ?_ ?_) <;> intro h))) | ((first | refine OpsL.same ?_ | refine OpsDL.same ?_); first | refine oK c45f rfl rfl rfl ?_) | refine MvQ.stay ?_)
            (refine rqK rfl ?_; (repeat' first | exact rfl | (refine qS ?_; constructor)))
            all_goals first | rfl | simp
          · have hany2 := hany2 rfl
            (repeat' first | (refine Owe.same ?_; first | refine Owe.o ?_ | refine Owe.mk ?_ ?_) | (refine Fork.same ?_; (first | refine fkY ?_ | refine fkF ?_ | ((first | refine fkD ?_ ?_ | refine fkN ?_ ?_ | refine fkM ?_ ?_) <;> intro h))) | ((first | refine OpsL.same ?_ | refine OpsDL.same ?_); first | refine oK c52l rfl rfl rfl ?_ | refine oK c53l rfl rfl rfl ?_ | refine oK c52a rfl rfl rfl ?_ | refine oK c53a rfl rfl rfl ?_ | refine oK c44 rfl rfl rfl ?_) | refine MvQ.stay ?_)
            (repeat' first | (refine Owe.same ?_; first | refine Owe.o ?_ | refine Owe.mk ?_ ?_) | (refine Fork.same ?_; (first | refine fkY ?_ | refine fkF ?_ | ((first | refine fkD ?_ ?_ | refine fkN ?_ ?_ | refine fkM ?_ ?_) <;> intro h))) | ((first | refine OpsL.same ?_ | refine OpsDL.same ?_); first | refine oK c45f rfl rfl rfl ?_) | refine MvQ.stay ?_)
            (refine rqK rfl ?_; (repeat' first | exact rfl | (refine qS ?_; constructor)))
            all_goals first | rfl | simp
        · have hfew := hfew hF
          rw [hF] at c45f
          simp only [unb] at c45f
          rcases qa with _ | _
          · (repeat' first | (refine Owe.same ?_; first | refine Owe.o ?_ | refine Owe.mk ?_ ?_) | (refine Fork.same ?_; (first | refine fkY ?_ | refine fkF ?_ | ((first | refine fkD ?_ ?_ | refine fkN ?_ ?_ | refine fkM ?_ ?_) <;> intro h))) | ((first | refine OpsL.same ?_ | refine OpsDL.same ?_); first | refine oK c52l rfl rfl rfl ?_ | refine oK c53l rfl rfl rfl ?_ | refine oK c52a rfl rfl rfl ?_ | refine oK c53a rfl rfl rfl ?_ | refine oK c44 rfl rfl rfl ?_) | refine MvQ.stay ?_)
            (repeat' first | (refine Owe.same ?_; first | refine Owe.o ?_ | refine Owe.mk ?_ ?_) | (refine Fork.same ?_; (first | refine fkY ?_ | refine fkF ?_ | ((first | refine fkD ?_ ?_ | refine fkN ?_ ?_ | refine fkM ?_ ?_) <;> intro h))) | ((first | refine OpsL.same ?_ | refine OpsDL.same ?_); first | refine oK c45f rfl rfl rfl ?_) | refine MvQ.stay ?_)
            (refine rqK rfl ?_; (repeat' first | exact rfl | (refine qS ?_; constructor)))
            all_goals first | rfl | (simp; omega)
          · have hany2 := hany2 rfl
            (repeat' first | (refine Owe.same ?_; first | refine Owe.o ?_ | refine Owe.mk ?_ ?_) | (refine Fork.same ?_; (first | refine fkY ?_ | refine fkF ?_ | ((first | refine fkD ?_ ?_ | refine fkN ?_ ?_ | refine fkM ?_ ?_) <;> intro h))) | ((first | refine OpsL.same ?_ | refine OpsDL.same ?_); first | refine oK c52l rfl rfl rfl ?_ | refine oK c53l rfl rfl rfl ?_ | refine oK c52a rfl rfl rfl ?_ | refine oK c53a rfl rfl rfl ?_ | refine oK c44 rfl rfl rfl ?_) | refine MvQ.stay ?_)
            (repeat' first | (refine Owe.same ?_; first | refine Owe.o ?_ | refine Owe.mk ?_ ?_) | (refine Fork.same ?_; (first | refine fkY ?_ | refine fkF ?_ | ((first | refine fkD ?_ ?_ | refine fkN ?_ ?_ | refine fkM ?_ ?_) <;> intro h))) | ((first | refine OpsL.same ?_ | refine OpsDL.same ?_); first | refine oK c45f rfl rfl rfl ?_) | refine MvQ.stay ?_)
            (refine rqK rfl ?_; (repeat' first | exact rfl | (refine qS ?_; constructor)))
            all_goals first | rfl | (simp; omega)
  · have c51 := C51 (x := x)
    have c50 := C50 (x := x) (p := p)
    rcases hv : vwsB x with _ | _
    · rw [hv] at c42
      refine pi1 fn8 ?_
      (repeat' first | (refine Owe.same ?_; first | refine Owe.o ?_ | refine Owe.mk ?_ ?_) | (refine Fork.same ?_; (first | refine fkY ?_ | refine fkF ?_ | ((first | refine fkD ?_ ?_ | refine fkN ?_ ?_ | refine fkM ?_ ?_) <;> intro h))) | ((first | refine OpsL.same ?_ | refine OpsDL.same ?_); first | refine oK C10 rfl rfl rfl ?_ | refine oK c42 rfl rfl rfl ?_) | refine MvQ.stay ?_)
      (refine rqK rfl ?_; (repeat' first | exact rfl | (refine qS ?_; constructor)))
    · rw [hv] at c42
      have hv' := of_decide_eq_true hv
      have c51 := c51 (by omega)
      by_cases h0 : (seE x).2 = 0
      · rw [h0] at c51
        by_cases hn6 : x.2.2.1.length ≤ 6
        · have h1 : ¬ pcE x p = 0 := fun h1 => hP ⟨hv, h0, hn6, h1⟩
          by_cases hl : p.length = x.2.2.2.length
          · have c50 := c50 ⟨seE_ok.1 h0, by omega⟩
            generalize pcE x p = e at *
            refine pi1 fn8 ?_
            (repeat' first | (refine Owe.same ?_; first | refine Owe.o ?_ | refine Owe.mk ?_ ?_) | (refine Fork.same ?_; (first | refine fkY ?_ | refine fkF ?_ | ((first | refine fkD ?_ ?_ | refine fkN ?_ ?_ | refine fkM ?_ ?_) <;> intro h))) | ((first | refine OpsL.same ?_ | refine OpsDL.same ?_); first | refine oK C10 rfl rfl rfl ?_ | refine oK c42 rfl rfl rfl ?_ | refine oK c51 rfl rfl rfl ?_ | refine oK c50 rfl rfl rfl ?_) | refine MvQ.stay ?_)
            (refine rqK rfl ?_; (repeat' first | exact rfl | (refine qS ?_; constructor)))
          · have c50n := C50n hl
            refine pi1 fn8 ?_
            (repeat' first | (refine Owe.same ?_; first | refine Owe.o ?_ | refine Owe.mk ?_ ?_) | (refine Fork.same ?_; (first | refine fkY ?_ | refine fkF ?_ | ((first | refine fkD ?_ ?_ | refine fkN ?_ ?_ | refine fkM ?_ ?_) <;> intro h))) | ((first | refine OpsL.same ?_ | refine OpsDL.same ?_); first | refine oK C10 rfl rfl rfl ?_ | refine oK c42 rfl rfl rfl ?_ | refine oK c51 rfl rfl rfl ?_ | refine oK c50n rfl rfl rfl ?_) | refine MvQ.stay ?_)
            (refine rqK rfl ?_; (repeat' first | exact rfl | (refine qS ?_; constructor)))
        · refine pi1 fn8 ?_
          (repeat' first | (refine Owe.same ?_; first | refine Owe.o ?_ | refine Owe.mk ?_ ?_) | (refine Fork.same ?_; (first | refine fkY ?_ | refine fkF ?_ | ((first | refine fkD ?_ ?_ | refine fkN ?_ ?_ | refine fkM ?_ ?_) <;> intro h))) | ((first | refine OpsL.same ?_ | refine OpsDL.same ?_); first | refine oK C10 rfl rfl rfl ?_ | refine oK c42 rfl rfl rfl ?_ | refine oK c51 rfl rfl rfl ?_) | refine MvQ.stay ?_)
          (refine rqK rfl ?_; (repeat' first | exact rfl | (refine qS ?_; constructor)))
      · generalize (seE x).2 = e at *
        refine pi1 fn8 ?_
        (repeat' first | (refine Owe.same ?_; first | refine Owe.o ?_ | refine Owe.mk ?_ ?_) | (refine Fork.same ?_; (first | refine fkY ?_ | refine fkF ?_ | ((first | refine fkD ?_ ?_ | refine fkN ?_ ?_ | refine fkM ?_ ?_) <;> intro h))) | ((first | refine OpsL.same ?_ | refine OpsDL.same ?_); first | refine oK C10 rfl rfl rfl ?_ | refine oK c42 rfl rfl rfl ?_ | refine oK c51 rfl rfl rfl ?_) | refine MvQ.stay ?_)
        (refine rqK rfl ?_; (repeat' first | exact rfl | (refine qS ?_; constructor)))
end Go.Pw

namespace Go.Proofs.YtbgikbenhglmkaaGreat
open Go.ChangeShapes Go.WideShapes Go.ChangeAt Go.RowKit Go.Pw
theorem Tryz.own : ownKnob Tryz.prog.godebug = none := by kernel_rfl
theorem Tryz.laidOut : laidOutB Tryz.prog = true := by kernel_rfl
theorem shapes : shAll Tryz.prog [75, 3, 27] = some [(true, [.int .i64, .int .i64, .sl [.int .i64, .int .i64, .int .i64, .int .i64, .bool, .int .i64], .sl [.int .i64]]), (false, [.int .i64]), (false, [.sl [.int .i64]])] := by kernel_rfl
theorem law (args : List V) (h : ArgOk [(true, [.int .i64, .int .i64, .sl [.int .i64, .int .i64, .int .i64, .int .i64, .bool, .int .i64], .sl [.int .i64]]), (false, [.int .i64]), (false, [.sl [.int .i64]])] args) : PFD Tryz.prog 8 args (vbl true) := by
  match args, h with
  | [v0, v1, v2], ⟨h0, h1, h2, _⟩ =>
    obtain ⟨x0, r0, q0⟩ := arg_search h0
    obtain ⟨l1, rfl, q1⟩ := arg_int h1
    obtain ⟨l2, r2, q2⟩ := arg_ints h2
    exact PFD.ri (C8 (w64_i q1)) (.cons r0 (.cons (RI.refl _) (.cons r2 .nil)))
set_option maxRecDepth 100000 in
theorem lifted (os : Os) (started : os.Started) (H : Type) (enc : TypeId × Value → H) :
    ReturnsInHanded {} Tryz.checked os 8 .any (Rows.sonarCheapestSpec.pre6 enc Tryz.prog Tryz.f8 Rows.sonarCheapestRow.domain false) (Rows.sonarCheapestSpec.post enc Tryz.prog Tryz.f8 false true false false) := by
  refine returnsInHanded_of_change (C := Tryz.checked) Tryz.own started (by kernel_rfl) Tryz.func8
    (ChangeSpec.witness6 (enc := enc) (C := Tryz.checked) false ⟨#[], #[.agg #[.int .i64 0, .int .i64 0, .slice none 0 0, .slice none 0 0], .int .i64 0, .slice none 0 0], []⟩ 8 (by kernel_rfl) (by kernel_rfl) (by kernel_rfl) (by kernel_rfl)) ?_
  intro W base args ds gs before hval0 hW hcnd _
  exact law_calls (P := Tryz.prog) (F := Tryz.f8) (tb := 4) Tryz.laidOut (by rw [Tryz.params8]; exact shapes) rfl (fun ds hl => by
    rw [Tryz.params8] at hl
    match ds, hl with
    | [d0, d1, d2], _ => rfl) (by kernel_rfl) Tryz.underlying4 law W base args ds gs before hval0 hW
theorem row_holds : Rows.SonarCheapestSaid :=
  OpenClaim.holds_of_wide 8 Tryz.f8 rfl rfl rfl rfl rfl rfl rfl ⟨rfl, rfl, rfl, rfl, rfl⟩ rfl rfl rfl rfl rfl (by kernel_rfl) Tryz.func8 (by kernel_rfl)
    (of_decide_eq_true (by kernel_rfl)) (by unfold Func.isWrapper; rw [if_neg (by decide +kernel)]; exact ⟨rfl, rfl⟩)
    (fun os started H enc _ => lifted os started H enc)
end Go.Proofs.YtbgikbenhglmkaaGreat
